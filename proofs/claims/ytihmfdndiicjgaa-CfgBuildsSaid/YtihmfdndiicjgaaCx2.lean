import Derived.Test.YtihmfdndiicjgaaCx0
import Derived.Test.YtihmfdndiicjgaaCx1
namespace Go.Proofs.Ytihmfdndiicjgaa.C
open Go.RowKit Go.Proofs.YtihmfdndiicjgaaW.PrintWords Go.Proofs.YtihmfdndiicjgaaW.PrintLast Go.Proofs.YtihmfdndiicjgaaW.PrintMore
attribute [local go_sem] max2_int min2_int max_two min_two max_three min_three max_four min_four   -- for this text's walks alone
set_option linter.unusedVariables false
set_option linter.unusedSimpArgs false
open Go.Proofs.HMap Go.Proofs.HLaws
def isa_Encode.bit (a b c i ch : Int) : Int :=
 if ch = 97 then a % 4294967296 * 4194304 % 4294967296 else if ch = 98 then b % 4294967296 * 262144 % 4294967296 else if ch = 99 then c % 4294967296 * 16384 % 4294967296 else Go.bits .and .u32 (i % 4294967296) 262143 % 4294967296
def isa_Encode.fold (a b c i : Int) (l : List Int) (x : Int) : Int := l.foldl (fun x ch => Go.bits .or .u32 x (isa_Encode.bit a b c i ch)) x
def isa_Encode.w (op a b c i : Int) : Int := isa_Encode.fold a b c i (bytesOf (isa_find.row op).1.f1) (op * 67108864 % 4294967296)
theorem isa_find.letters (op : Int) (h0 : 0 ≤ op) (h1 : op ≤ 255) : ∀ j : Nat, j < (isa_find.row op).1.f1.size → (bytesOf (isa_find.row op).1.f1).getD j 0 = 97 ∨ (bytesOf (isa_find.row op).1.f1).getD j 0 = 98 ∨ (bytesOf (isa_find.row op).1.f1).getD j 0 = 99 ∨ (bytesOf (isa_find.row op).1.f1).getD j 0 = 105 := by
 have hs := isa_find.ops_size op h0 h1
 intro j hj
 have hj3 : j < 3 := by omega
 revert hj
 unfold isa_find.row
 split
 ·obtain ⟨n, rfl⟩ := Int.eq_ofNat_of_zero_le h0
  have : ∀ (m : Fin 30) (j : Fin 3), (j : Nat) < (isa_rows.L.getD (m : Nat) z108).f1.size → (bytesOf (isa_rows.L.getD (m : Nat) z108).f1).getD (j : Nat) 0 = 97 ∨ (bytesOf (isa_rows.L.getD (m : Nat) z108).f1).getD (j : Nat) 0 = 98 ∨ (bytesOf (isa_rows.L.getD (m : Nat) z108).f1).getD (j : Nat) 0 = 99 ∨ (bytesOf (isa_rows.L.getD (m : Nat) z108).f1).getD (j : Nat) 0 = 105 := by decide +kernel
  exact this ⟨n, by omega⟩ ⟨j, hj3⟩
 ·intro h; exact absurd h (by simp [z108, ByteArray.size])
theorem isa_Encode.fold_snoc (a b c i x ch : Int) (l : List Int) (j : Nat) (hj : j < l.length) (hc : l.getD j 0 = ch) : isa_Encode.fold a b c i (l.take (j + 1)) x = Go.bits .or .u32 (isa_Encode.fold a b c i (l.take j) x) (isa_Encode.bit a b c i ch) := by
 rw [List.take_succ_eq_append_getElem hj]
 subst hc
 unfold isa_Encode.fold
 rw [List.foldl_append]
 simp [List.getD_eq_getElem?_getD, List.getElem?_eq_getElem hj]
set_option maxHeartbeats 8000000 in
set_option maxRecDepth 100000 in
theorem isa_Encode.no (op a b c i : Int) (h0 : 0 ≤ op) (h1 : op ≤ 255) (w : World) (hv : isa_Valid.g op a b c i = false) : Calls Try.prog 25 #[.agg #[.int .u8 op, .int .i64 a, .int .i64 b, .int .i64 c, .int .i64 i]] w fun e w' => e = .returned (.tuple #[.int .u32 0, .int .i64 3]) ∧ Below w.heap.size w w' := by
 have HV := aK (isa_Valid.call op a b c i h0 h1)
 have H := aK hv
 clear hv
 go_enter Try.func25, Try.ntmps25
 go_wp2_with (go_at_call 57; (with_reducible refine (HV.out _).mono ?_); rw [H.out]; rintro e w1 ⟨rfl, hb⟩; have HB := aK hb; clear hb)
 go_ret2
 exact ⟨rfl, below_then (below_alloc (Below.refl _ _) _) (by simp) HB.out⟩
set_option maxHeartbeats 8000000 in
set_option maxRecDepth 100000 in
theorem isa_Encode.yes (op a b c i : Int) (h0 : 0 ≤ op) (h1 : op ≤ 255) (w : World) (hv : isa_Valid.g op a b c i = true) : Calls Try.prog 25 #[.agg #[.int .u8 op, .int .i64 a, .int .i64 b, .int .i64 c, .int .i64 i]] w fun e w' => e = .returned (.tuple #[.int .u32 (isa_Encode.w op a b c i), .int .i64 0]) ∧ Below w.heap.size w w' := by
 have HV := aK (isa_Valid.call op a b c i h0 h1)
 rw [hv] at HV
 have HF := aK (isa_find.call op h0 h1)
 have HL := aK (isa_find.letters op h0 h1)
 have HS := aK (isa_find.ops_size op h0 h1)
 have HG : Aside0 (isa_Encode.w op a b c i = isa_Encode.fold a b c i (bytesOf (isa_find.row op).1.f1) (op * 67108864 % 4294967296)) := ⟨rfl⟩
 clear hv
 generalize (isa_find.row op).1 = R at *
 generalize (isa_find.row op).2 = Z at *
 generalize hG : isa_Encode.w op a b c i = G at *
 clear hG
 go_enter Try.func25, Try.ntmps25
 go_wp2_with (first
  | ((with_reducible refine gate_dst (N := 1) rfl ?_); refine box_event rfl rfl (cs := #[.int .u8 op, .int .i64 a, .int .i64 b, .int .i64 c, .int .i64 i]) (t := 53) ?hr ?_; (case hr => first | (go_simp; done) | (go_simp; rfl)); intro gi hgi w1 hbox hb; have BI := aK hbox; have HB := aK hb; have hcj0 := (blk_cell hbox 0).trans rfl; have hcj1 := (blk_cell hbox 1).trans rfl; have hcj2 := (blk_cell hbox 2).trans rfl; have hcj3 := (blk_cell hbox 3).trans rfl; have hcj4 := (blk_cell hbox 4).trans rfl; clear hbox hb hgi)
  | (go_at_call 57; (with_reducible refine (HV.out _).mono ?_); rintro e w2 ⟨rfl, hb⟩; have BI2 := aK (blk_below BI.out hb); have HB2 := aK (below_step HB.out hb); have hck0 := (blk_cell BI2.out 0).trans rfl; clear hb)
  | (go_at_call 54; (with_reducible refine (HF.out _).mono ?_); rintro e w3 ⟨rfl, hb⟩; have BI3 := aK (blk_below BI2.out hb); have HB3 := aK (below_step HB2.out hb); have hcl0 : ∀ o, (w3.alloc o).cell? ⟨gi, 0, none⟩ = some (.int .u8 op) := fun o => (blk_cell (blk_alloc BI3.out o) 0).trans rfl; clear hb)
  | ((with_reducible refine gate_ (.convert 9 111 (.tmp 24)) rfl ?_); refine wp_bytes rfl _ rfl Try.underlying9 Try.underlying111 Try.underlying5 R.f1 rfl (by have := HS.out; omega) ?_; intro gs cap w4 hg hcap hc hb hsz; have HC := aK hc; have HCAP := aK hcap; have BI4 := aK (blk_below (blk_alloc BI3.out _) hb); have HB4 := aK (below_step (below_alloc HB3.out _) hb); clear hc hcap hb hg hsz))
 clear hcj0 hcj1 hcj2 hcj3 hcj4 hck0 hcl0
 go_loopw [27, 6] (fun v x wr => ∃ j : Nat, j ≤ R.f1.size ∧ v = .int .i64 j ∧ x = .int .u32 (isa_Encode.fold a b c i ((bytesOf R.f1).take j) (op * 67108864 % 4294967296)) ∧ Aside0 (wr.heap[gi]? = some (.cells #[.int .u8 op, .int .i64 a, .int .i64 b, .int .i64 c, .int .i64 i] 53 (0, 0))) ∧ Aside0 (Kd.C (Kd.int .u8) wr (some ⟨gs, 0, none⟩) R.f1.size (bytesOf R.f1)) ∧ Aside0 (Below w.heap.size w wr)) (fun v _ _ => R.f1.size - (intOf v).toNat)
 case atStart => exact ⟨0, by omega, rfl, rfl, BI4, HC, HB4⟩
 clear BI BI2 BI3 BI4 HB HB2 HB3 HB4 HC
 obtain ⟨j, hj, rfl, rfl, BI, HC, HB⟩ := hrel
 have hs := HS.out
 by_cases hlt : j < R.f1.size
 rotate_left
 ·go_wp2
  go_ret2
  exact ⟨by rw [HG.out]; rw [List.take_of_length_le (by rw [bytesOf_length]; omega)]; rfl, HB.out⟩
 have hc0 := C_cell HC.out j hlt
 have hl := HL.out j hlt
 have HN := aK (isa_Encode.fold_snoc a b c i (op * 67108864 % 4294967296) _ (bytesOf R.f1) j (by rw [bytesOf_length]; exact hlt) rfl)
 generalize (bytesOf R.f1).getD j 0 = ch at *
 obtain rfl | rfl | rfl | rfl := hl
 ·have hx0 : wr.cell? ⟨gi, 1, none⟩ = some (.int .i64 a) := (blk_cell BI.out 1).trans rfl
  have HP := aK (isa_position.calls 97 (by omega) (by omega))
  rw [show isa_position.g 97 = 22 from rfl] at HP
  go_wp2_with (first | (go_at_call 56; (with_reducible refine (isa_field.call97 _ _ _).mono ?_); rintro e w' ⟨rfl, ⟨nd, rfl⟩⟩) | (go_at_call 55; (with_reducible refine (HP.out _).mono ?_); rintro e w6 ⟨rfl, hb6⟩; have BI6 := aK (blk_below (blk_drewN BI.out nd) hb6); have HC6 := aK (Kd.C_below (Kd.C_drewN HC.out nd) hb6); have HB6 := aK (below_step (pw_below_drewN HB.out nd) hb6); clear hb6))
  go_roundw
  case rel => exact ⟨j + 1, by omega, by go_num, by rw [HN.out]; rfl, BI6, HC6, HB6⟩
  case measure => simp [intOf]; omega
 ·have hx0 : wr.cell? ⟨gi, 2, none⟩ = some (.int .i64 b) := (blk_cell BI.out 2).trans rfl
  have HP := aK (isa_position.calls 98 (by omega) (by omega))
  rw [show isa_position.g 98 = 18 from rfl] at HP
  go_wp2_with (first | (go_at_call 56; (with_reducible refine (isa_field.call98 _ _ _).mono ?_); rintro e w' ⟨rfl, ⟨nd, rfl⟩⟩) | (go_at_call 55; (with_reducible refine (HP.out _).mono ?_); rintro e w6 ⟨rfl, hb6⟩; have BI6 := aK (blk_below (blk_drewN BI.out nd) hb6); have HC6 := aK (Kd.C_below (Kd.C_drewN HC.out nd) hb6); have HB6 := aK (below_step (pw_below_drewN HB.out nd) hb6); clear hb6))
  go_roundw
  case rel => exact ⟨j + 1, by omega, by go_num, by rw [HN.out]; rfl, BI6, HC6, HB6⟩
  case measure => simp [intOf]; omega
 ·have hx0 : wr.cell? ⟨gi, 3, none⟩ = some (.int .i64 c) := (blk_cell BI.out 3).trans rfl
  have HP := aK (isa_position.calls 99 (by omega) (by omega))
  rw [show isa_position.g 99 = 14 from rfl] at HP
  go_wp2_with (first | (go_at_call 56; (with_reducible refine (isa_field.call99 _ _ _).mono ?_); rintro e w' ⟨rfl, ⟨nd, rfl⟩⟩) | (go_at_call 55; (with_reducible refine (HP.out _).mono ?_); rintro e w6 ⟨rfl, hb6⟩; have BI6 := aK (blk_below (blk_drewN BI.out nd) hb6); have HC6 := aK (Kd.C_below (Kd.C_drewN HC.out nd) hb6); have HB6 := aK (below_step (pw_below_drewN HB.out nd) hb6); clear hb6))
  go_roundw
  case rel => exact ⟨j + 1, by omega, by go_num, by rw [HN.out]; rfl, BI6, HC6, HB6⟩
  case measure => simp [intOf]; omega
 ·have hx0 : wr.cell? ⟨gi, 4, none⟩ = some (.int .i64 i) := (blk_cell BI.out 4).trans rfl
  have HP := aK (isa_position.calls 105 (by omega) (by omega))
  rw [show isa_position.g 105 = 0 from rfl] at HP
  go_wp2_with (first | (go_at_call 56; (with_reducible refine (isa_field.call105 _ _ _).mono ?_); rintro e w' ⟨rfl, ⟨nd, rfl⟩⟩) | (go_at_call 55; (with_reducible refine (HP.out _).mono ?_); rintro e w6 ⟨rfl, hb6⟩; have BI6 := aK (blk_below (blk_drewN BI.out nd) hb6); have HC6 := aK (Kd.C_below (Kd.C_drewN HC.out nd) hb6); have HB6 := aK (below_step (pw_below_drewN HB.out nd) hb6); clear hb6))
  go_roundw
  case rel => exact ⟨j + 1, by omega, by go_num, by rw [HN.out]; rfl, BI6, HC6, HB6⟩
  case measure => simp [intOf]; omega
def isa_Encode.g (op a b c i : Int) : Int × Int := if isa_Valid.g op a b c i then (isa_Encode.w op a b c i, 0) else (0, 3)
theorem isa_Encode.call (op a b c i : Int) (h0 : 0 ≤ op) (h1 : op ≤ 255) (w : World) : Calls Try.prog 25 #[.agg #[.int .u8 op, .int .i64 a, .int .i64 b, .int .i64 c, .int .i64 i]] w fun e w' => e = .returned (.tuple #[.int .u32 (isa_Encode.g op a b c i).1, .int .i64 (isa_Encode.g op a b c i).2]) ∧ Below w.heap.size w w' := by
 cases hv : isa_Valid.g op a b c i with
 | true => unfold isa_Encode.g; rw [hv]; exact isa_Encode.yes op a b c i h0 h1 w hv
 | false => unfold isa_Encode.g; rw [hv]; exact isa_Encode.no op a b c i h0 h1 w hv
def isa_Encode.f (a b c d e : Int) : Option (Int × Int) := if 0 ≤ a then (if a ≤ 255 then some (isa_Encode.g a b c d e) else none) else none
theorem isa_Encode.calls (a0_0 a0_1 a0_2 a0_3 a0_4 : Int) (r1 r2 : Int) (w : World) (h : isa_Encode.f a0_0 a0_1 a0_2 a0_3 a0_4 = some (r1, r2)) :
  Calls Try.prog 25 #[.agg #[.int .u8 a0_0, .int .i64 a0_1, .int .i64 a0_2, .int .i64 a0_3, .int .i64 a0_4]] w fun e w' => e = .returned (.tuple #[.int .u32 r1, .int .i64 r2]) ∧ Below w.heap.size w w' := by
 unfold isa_Encode.f at h
 split at h
 ·split at h
  ·injection h with h
   have hc := isa_Encode.call a0_0 a0_1 a0_2 a0_3 a0_4 (by assumption) (by assumption) w
   rw [h] at hc
   exact hc
  ·cases h
 ·cases h
open Go.Proofs.HMap Go.Proofs.HLaws
def isa_Decode.opd (l : List Int) (ch v : Int) : Int := if ch ∈ l then v else 0
def isa_Decode.vA (x : Int) : Int := wrap64 (Go.bits .and .u32 (x / 4194304) 15)
def isa_Decode.vB (x : Int) : Int := wrap64 (Go.bits .and .u32 (x / 262144) 15)
def isa_Decode.vC (x : Int) : Int := wrap64 (Go.bits .and .u32 (x / 16384) 15)
def isa_Decode.vI (x : Int) : Int := wrap64 (wrap32 (x * 16384 % 4294967296) / 16384)
theorem isa_Decode.hit (v ch : Int) (l : List Int) (j : Nat) (hj : j < l.length) (hc : l.getD j 0 = ch) : isa_Decode.opd (l.take (j + 1)) ch v = v := by
 rw [List.take_succ_eq_append_getElem hj]
 unfold isa_Decode.opd
 rw [if_pos]
 have : l[j] = ch := by rw [← hc]; simp [List.getD_eq_getElem?_getD, List.getElem?_eq_getElem hj]
 rw [List.mem_append]; right; simp [this]
theorem isa_Decode.miss (v ch ch' : Int) (l : List Int) (j : Nat) (hj : j < l.length) (hc : l.getD j 0 = ch') (hne : ch ≠ ch') : isa_Decode.opd (l.take (j + 1)) ch v = isa_Decode.opd (l.take j) ch v := by
 rw [List.take_succ_eq_append_getElem hj]
 unfold isa_Decode.opd
 have : l[j] = ch' := by rw [← hc]; simp [List.getD_eq_getElem?_getD, List.getElem?_eq_getElem hj]
 rw [this]
 have hm : ch ∈ l.take j ++ [ch'] ↔ ch ∈ l.take j := by simp [hne]
 by_cases h : ch ∈ l.take j
 ·rw [if_pos h, if_pos (hm.2 h)]
 ·rw [if_neg h, if_neg (fun h2 => h (hm.1 h2))]
def isa_Decode.oA (x : Int) : Int := isa_Decode.opd (bytesOf (isa_find.row (x / 67108864)).1.f1) 97 (isa_Decode.vA x)
def isa_Decode.oB (x : Int) : Int := isa_Decode.opd (bytesOf (isa_find.row (x / 67108864)).1.f1) 98 (isa_Decode.vB x)
def isa_Decode.oC (x : Int) : Int := isa_Decode.opd (bytesOf (isa_find.row (x / 67108864)).1.f1) 99 (isa_Decode.vC x)
def isa_Decode.oI (x : Int) : Int := isa_Decode.opd (bytesOf (isa_find.row (x / 67108864)).1.f1) 105 (isa_Decode.vI x)
def isa_Decode.g (x : Int) : Int × Int × Int × Int × Int × Int :=
 if (isa_find.row (x / 67108864)).2 then
  (if (isa_Encode.g (x / 67108864) (isa_Decode.oA x) (isa_Decode.oB x) (isa_Decode.oC x) (isa_Decode.oI x)).1 = x ∧ (isa_Encode.g (x / 67108864) (isa_Decode.oA x) (isa_Decode.oB x) (isa_Decode.oC x) (isa_Decode.oI x)).2 = 0 then (x / 67108864, (isa_Decode.oA x), (isa_Decode.oB x), (isa_Decode.oC x), (isa_Decode.oI x), 0) else (0, 0, 0, 0, 0, 3))
 else (0, 0, 0, 0, 0, 3)
set_option maxHeartbeats 8000000 in
set_option maxRecDepth 100000 in
theorem isa_Decode.no (x : Int) (h0 : 0 ≤ x) (h1 : x ≤ 4294967295) (w : World) (hr : (isa_find.row (x / 67108864)).2 = false) : Calls Try.prog 23 #[.int .u32 x] w fun e w' => e = .returned (.tuple #[.agg #[.int .u8 0, .int .i64 0, .int .i64 0, .int .i64 0, .int .i64 0], .int .i64 3]) ∧ Below w.heap.size w w' := by
 have h2 : 0 ≤ x / 67108864 := by omega
 have h3 : x / 67108864 ≤ 63 := by omega
 have HF := aK (isa_find.call (x / 67108864) (by omega) (by omega))
 have HL := aK (isa_find.letters (x / 67108864) (by omega) (by omega))
 have HS := aK (isa_find.ops_size (x / 67108864) (by omega) (by omega))
 rw [hr] at HF
 clear hr HL HS
 generalize (isa_find.row (x / 67108864)).1 = R at *
 go_enter Try.func23, Try.ntmps23
 go_wp2_with (first
  | ((with_reducible refine gate_dst (N := 2) rfl ?_); refine box_event rfl rfl (cs := #[.int .u8 0, .int .i64 0, .int .i64 0, .int .i64 0, .int .i64 0]) (t := 53) ?hr ?_; (case hr => first | (go_simp; done) | (go_simp; rfl)); intro gq hgq w1 hbox hb; have BQ := aK hbox; have HB := aK hb; have GQ := aK (show w.heap.size ≤ gq by omega); clear hbox hb hgq)
  | (go_at_call 54; (with_reducible refine (HF.out _).mono ?_); rintro e w2 ⟨rfl, hb⟩; have BQ2 := aK (blk_below (blk_alloc BQ.out _) hb); have BI2 := aK (blk_below (blk_new w1 _) hb); have HB2 := aK (below_step (below_alloc HB.out _) hb); have GI := aK (below_size HB.out); have GQI := aK (blk_lt BQ.out); have hq0 : ∀ o k v, #[Value.int .u8 0, .int .i64 0, .int .i64 0, .int .i64 0, .int .i64 0][k]? = some v → (w2.alloc o).cell? ⟨gq, k, none⟩ = some v := fun o k v hv => (blk_cell (blk_alloc BQ2.out o) k).trans hv; have hz0 : ∀ o k, (w2.alloc o).frozen? ⟨gq, k, none⟩ = false := fun o k => blk_frozen (blk_alloc BQ2.out o) k; clear hb)
  | fail)
 refine bodyPost_ret (results_ct rfl _ _ gq 53 #[.int .u8 0, .int .i64 0, .int .i64 0, .int .i64 0, .int .i64 0] (0, 0) _ rfl (blk_put5 (blk_alloc BQ2.out _) _ _ _ _ _) Try.underlying53 rfl (by kernel_rfl)) rfl ?_
 exact ⟨rfl, below_put5 (below_alloc HB2.out _) GQ.out _ _ _ _ _⟩
set_option maxHeartbeats 8000000 in
set_option maxRecDepth 100000 in
theorem isa_Decode.yes (x : Int) (h0 : 0 ≤ x) (h1 : x ≤ 4294967295) (w : World) (hr : (isa_find.row (x / 67108864)).2 = true) (r1 r2 r3 r4 r5 r6 : Int) (hR : isa_Decode.g x = (r1, r2, r3, r4, r5, r6)) : Calls Try.prog 23 #[.int .u32 x] w fun e w' => e = .returned (.tuple #[.agg #[.int .u8 r1, .int .i64 r2, .int .i64 r3, .int .i64 r4, .int .i64 r5], .int .i64 r6]) ∧ Below w.heap.size w w' := by
 have h2 : 0 ≤ x / 67108864 := by omega
 have h3 : x / 67108864 ≤ 63 := by omega
 have HF := aK (isa_find.call (x / 67108864) (by omega) (by omega))
 have HL := aK (isa_find.letters (x / 67108864) (by omega) (by omega))
 have HS := aK (isa_find.ops_size (x / 67108864) (by omega) (by omega))
 rw [hr] at HF
 have HO : Aside0 (isa_Decode.oA x = isa_Decode.opd (bytesOf (isa_find.row (x / 67108864)).1.f1) 97 (isa_Decode.vA x) ∧ isa_Decode.oB x = isa_Decode.opd (bytesOf (isa_find.row (x / 67108864)).1.f1) 98 (isa_Decode.vB x) ∧ isa_Decode.oC x = isa_Decode.opd (bytesOf (isa_find.row (x / 67108864)).1.f1) 99 (isa_Decode.vC x) ∧ isa_Decode.oI x = isa_Decode.opd (bytesOf (isa_find.row (x / 67108864)).1.f1) 105 (isa_Decode.vI x)) := ⟨⟨rfl, rfl, rfl, rfl⟩⟩
 have HVA : Aside0 (wrap64 (Go.bits .and .u32 (x / 4194304) 15) = isa_Decode.vA x) := ⟨rfl⟩
 have HVB : Aside0 (wrap64 (Go.bits .and .u32 (x / 262144) 15) = isa_Decode.vB x) := ⟨rfl⟩
 have HVC : Aside0 (wrap64 (Go.bits .and .u32 (x / 16384) 15) = isa_Decode.vC x) := ⟨rfl⟩
 have HVI : Aside0 (wrap64 (wrap32 (x * 16384 % 4294967296) / 16384) = isa_Decode.vI x) := ⟨rfl⟩
 have HG : Aside0 ((if (isa_Encode.g (x / 67108864) (isa_Decode.oA x) (isa_Decode.oB x) (isa_Decode.oC x) (isa_Decode.oI x)).1 = x ∧ (isa_Encode.g (x / 67108864) (isa_Decode.oA x) (isa_Decode.oB x) (isa_Decode.oC x) (isa_Decode.oI x)).2 = 0 then (x / 67108864, (isa_Decode.oA x), (isa_Decode.oB x), (isa_Decode.oC x), (isa_Decode.oI x), 0) else (0, 0, 0, 0, 0, 3)) = (r1, r2, r3, r4, r5, r6)) := ⟨by rw [← hR]; unfold isa_Decode.g; rw [if_pos hr]⟩
 have HE := aK (isa_Encode.call (x / 67108864) (isa_Decode.oA x) (isa_Decode.oB x) (isa_Decode.oC x) (isa_Decode.oI x) (by omega) (by omega))
 clear hr hR
 generalize (isa_find.row (x / 67108864)).1 = R at *
 generalize (isa_Encode.g (x / 67108864) (isa_Decode.oA x) (isa_Decode.oB x) (isa_Decode.oC x) (isa_Decode.oI x)).1 = E1 at *
 generalize (isa_Encode.g (x / 67108864) (isa_Decode.oA x) (isa_Decode.oB x) (isa_Decode.oC x) (isa_Decode.oI x)).2 = E2 at *
 generalize isa_Decode.oA x = OA at *
 generalize isa_Decode.oB x = OB at *
 generalize isa_Decode.oC x = OC at *
 generalize isa_Decode.oI x = OI at *
 generalize isa_Decode.vA x = VA at *
 generalize isa_Decode.vB x = VB at *
 generalize isa_Decode.vC x = VC at *
 generalize isa_Decode.vI x = VI at *
 go_enter Try.func23, Try.ntmps23
 go_wp2_with (first
  | ((with_reducible refine gate_dst (N := 2) rfl ?_); refine box_event rfl rfl (cs := #[.int .u8 0, .int .i64 0, .int .i64 0, .int .i64 0, .int .i64 0]) (t := 53) ?hr ?_; (case hr => first | (go_simp; done) | (go_simp; rfl)); intro gq hgq w1 hbox hb; have BQ := aK hbox; have HB := aK hb; have GQ := aK (show w.heap.size ≤ gq by omega); clear hbox hb hgq)
  | (go_at_call 54; (with_reducible refine (HF.out _).mono ?_); rintro e w2 ⟨rfl, hb⟩; have BQ2 := aK (blk_below (blk_alloc BQ.out _) hb); have BI2 := aK (blk_below (blk_new w1 _) hb); have HB2 := aK (below_step (below_alloc HB.out _) hb); have GI := aK (below_size HB.out); have GQI := aK (blk_lt BQ.out);  clear hb)
  | ((with_reducible refine gate_ (.convert 9 111 (.tmp 25)) rfl ?_); refine wp_bytes rfl _ rfl Try.underlying9 Try.underlying111 Try.underlying5 R.f1 rfl (by have := HS.out; omega) ?_; intro gs cap w4 hg hcap hc hb hsz; have HC := aK hc; have BI4 := aK (blk_below (blk_alloc BI2.out _) hb); have BQ4 := aK (blk_below (blk_alloc BQ2.out _) hb); have HB4 := aK (below_step (below_alloc HB2.out _) hb); have GS := aK (show w1.heap.size < gs by have := blk_lt BI2.out; simp at hg; omega); clear hc hcap hb hg hsz))
 go_loopw [28] (fun v wr => ∃ j : Nat, j ≤ R.f1.size ∧ v = .int .i64 j ∧ Aside0 (wr.heap[w1.heap.size]? = some (.cells #[.int .u8 (x / 67108864), .int .i64 (isa_Decode.opd ((bytesOf R.f1).take j) 97 VA), .int .i64 (isa_Decode.opd ((bytesOf R.f1).take j) 98 VB), .int .i64 (isa_Decode.opd ((bytesOf R.f1).take j) 99 VC), .int .i64 (isa_Decode.opd ((bytesOf R.f1).take j) 105 VI)] 53 (0, 0))) ∧ Aside0 (wr.heap[gq]? = some (.cells #[.int .u8 0, .int .i64 0, .int .i64 0, .int .i64 0, .int .i64 0] 53 (0, 0))) ∧ Aside0 (Kd.C (Kd.int .u8) wr (some ⟨gs, 0, none⟩) R.f1.size (bytesOf R.f1)) ∧ Aside0 (Below w.heap.size w wr)) (fun v _ => R.f1.size - (intOf v).toNat)
 case atStart => exact ⟨0, by omega, rfl, BI4, BQ4, HC, HB4⟩
 clear BI2 BI4 HB HB2 HB4 HC BQ BQ2 BQ4
 obtain ⟨j, hj, rfl, BI, BQ, HC, HB⟩ := hrel
 have hs := HS.out
 by_cases hlt : j < R.f1.size
 ·have hc0 := C_cell HC.out j hlt
  have hl := HL.out j hlt
  have hlen : j < (bytesOf R.f1).length := by rw [bytesOf_length]; exact hlt
  have HX := aK (show (bytesOf R.f1).getD j 0 = (bytesOf R.f1).getD j 0 from rfl)
  obtain ⟨ch, hch⟩ : ∃ ch, (bytesOf R.f1).getD j 0 = ch := ⟨_, rfl⟩
  rw [hch] at hc0 hl
  have HCH := aK hch
  clear hch HX
  obtain rfl | rfl | rfl | rfl := hl
  ·have HP := aK (isa_position.calls 97 (by omega) (by omega))
   rw [show isa_position.g 97 = 22 from rfl] at HP
   go_wp2_with (first | (go_at_call 56; (with_reducible refine (isa_field.call97 _ _ _).mono ?_); rintro e w' ⟨rfl, ⟨nd, rfl⟩⟩) | (go_at_call 55; (with_reducible refine (HP.out _).mono ?_); rintro e w6 ⟨rfl, hb6⟩; have BI6 := aK (blk_below (blk_drewN BI.out nd) hb6); have BQ6 := aK (blk_below (blk_drewN BQ.out nd) hb6); have HC6 := aK (Kd.C_below (Kd.C_drewN HC.out nd) hb6); have HB6 := aK (below_step (pw_below_drewN HB.out nd) hb6); clear hb6; have hx6 := (blk_cell BI6.out 1).trans rfl; have hf6 := blk_frozen BI6.out 1))
   go_roundw
   case rel => exact ⟨j + 1, by omega, by go_num, ⟨by rw [isa_Decode.hit VA 97 _ j hlen HCH.out, isa_Decode.miss VB 98 97 _ j hlen HCH.out (by decide), isa_Decode.miss VC 99 97 _ j hlen HCH.out (by decide), isa_Decode.miss VI 105 97 _ j hlen HCH.out (by decide), HVA.out]; exact blk_put BI6.out 1 _ rfl⟩, ⟨blk_far BQ6.out (by have := GQI.out; simp; omega) _⟩, ⟨C_setCell HC6.out (by have := GS.out; simp; omega) _⟩, ⟨below_set HB6.out GI.out⟩⟩
   case measure => simp [intOf]; omega
  ·have HP := aK (isa_position.calls 98 (by omega) (by omega))
   rw [show isa_position.g 98 = 18 from rfl] at HP
   go_wp2_with (first | (go_at_call 56; (with_reducible refine (isa_field.call98 _ _ _).mono ?_); rintro e w' ⟨rfl, ⟨nd, rfl⟩⟩) | (go_at_call 55; (with_reducible refine (HP.out _).mono ?_); rintro e w6 ⟨rfl, hb6⟩; have BI6 := aK (blk_below (blk_drewN BI.out nd) hb6); have BQ6 := aK (blk_below (blk_drewN BQ.out nd) hb6); have HC6 := aK (Kd.C_below (Kd.C_drewN HC.out nd) hb6); have HB6 := aK (below_step (pw_below_drewN HB.out nd) hb6); clear hb6; have hx6 := (blk_cell BI6.out 2).trans rfl; have hf6 := blk_frozen BI6.out 2))
   go_roundw
   case rel => exact ⟨j + 1, by omega, by go_num, ⟨by rw [isa_Decode.miss VA 97 98 _ j hlen HCH.out (by decide), isa_Decode.hit VB 98 _ j hlen HCH.out, isa_Decode.miss VC 99 98 _ j hlen HCH.out (by decide), isa_Decode.miss VI 105 98 _ j hlen HCH.out (by decide), HVB.out]; exact blk_put BI6.out 2 _ rfl⟩, ⟨blk_far BQ6.out (by have := GQI.out; simp; omega) _⟩, ⟨C_setCell HC6.out (by have := GS.out; simp; omega) _⟩, ⟨below_set HB6.out GI.out⟩⟩
   case measure => simp [intOf]; omega
  ·have HP := aK (isa_position.calls 99 (by omega) (by omega))
   rw [show isa_position.g 99 = 14 from rfl] at HP
   go_wp2_with (first | (go_at_call 56; (with_reducible refine (isa_field.call99 _ _ _).mono ?_); rintro e w' ⟨rfl, ⟨nd, rfl⟩⟩) | (go_at_call 55; (with_reducible refine (HP.out _).mono ?_); rintro e w6 ⟨rfl, hb6⟩; have BI6 := aK (blk_below (blk_drewN BI.out nd) hb6); have BQ6 := aK (blk_below (blk_drewN BQ.out nd) hb6); have HC6 := aK (Kd.C_below (Kd.C_drewN HC.out nd) hb6); have HB6 := aK (below_step (pw_below_drewN HB.out nd) hb6); clear hb6; have hx6 := (blk_cell BI6.out 3).trans rfl; have hf6 := blk_frozen BI6.out 3))
   go_roundw
   case rel => exact ⟨j + 1, by omega, by go_num, ⟨by rw [isa_Decode.miss VA 97 99 _ j hlen HCH.out (by decide), isa_Decode.miss VB 98 99 _ j hlen HCH.out (by decide), isa_Decode.hit VC 99 _ j hlen HCH.out, isa_Decode.miss VI 105 99 _ j hlen HCH.out (by decide), HVC.out]; exact blk_put BI6.out 3 _ rfl⟩, ⟨blk_far BQ6.out (by have := GQI.out; simp; omega) _⟩, ⟨C_setCell HC6.out (by have := GS.out; simp; omega) _⟩, ⟨below_set HB6.out GI.out⟩⟩
   case measure => simp [intOf]; omega
  ·have hx6 := (blk_cell BI.out 4).trans rfl
   have hf6 := blk_frozen BI.out 4
   go_wp2
   go_roundw
   case rel => exact ⟨j + 1, by omega, by go_num, ⟨by rw [isa_Decode.miss VA 97 105 _ j hlen HCH.out (by decide), isa_Decode.miss VB 98 105 _ j hlen HCH.out (by decide), isa_Decode.miss VC 99 105 _ j hlen HCH.out (by decide), isa_Decode.hit VI 105 _ j hlen HCH.out, HVI.out]; exact blk_put BI.out 4 _ rfl⟩, ⟨blk_far BQ.out (by have := GQI.out; simp; omega) _⟩, ⟨C_setCell HC.out (by have := GS.out; simp; omega) _⟩, ⟨below_set HB.out GI.out⟩⟩
   case measure => simp [intOf]; omega
 ·rw [List.take_of_length_le (by rw [bytesOf_length]; omega), ← HO.out.1, ← HO.out.2.1, ← HO.out.2.2.1, ← HO.out.2.2.2] at BI
  clear HO
  have hi0 := (blk_cell BI.out 0).trans rfl
  have hi1 := (blk_cell BI.out 1).trans rfl
  have hi2 := (blk_cell BI.out 2).trans rfl
  have hi3 := (blk_cell BI.out 3).trans rfl
  have hi4 := (blk_cell BI.out 4).trans rfl
  by_cases he : E2 = 0
  rotate_left
  ·have HG2 := HG.out
   rw [if_neg (by simp [he])] at HG2
   simp only [Prod.mk.injEq] at HG2; obtain ⟨rfl, rfl, rfl, rfl, rfl, rfl⟩ := HG2
   have b1 : (E2 != 0) = true := by simp [he]
   clear he HG
   go_wp2_with (go_at_call 25; (with_reducible refine (HE.out _).mono ?_); rintro e w7 ⟨rfl, hb7⟩; have BI7 := aK (blk_below BI.out hb7); have BQ7 := aK (blk_below BQ.out hb7); have HB7 := aK (below_step HB.out hb7); clear hb7 hi0 hi1 hi2 hi3 hi4; have hi0 := (blk_cell BI7.out 0).trans rfl; have hi1 := (blk_cell BI7.out 1).trans rfl; have hi2 := (blk_cell BI7.out 2).trans rfl; have hi3 := (blk_cell BI7.out 3).trans rfl; have hi4 := (blk_cell BI7.out 4).trans rfl; have hq0 := (blk_cell BQ7.out 0).trans rfl; have hq1 := (blk_cell BQ7.out 1).trans rfl; have hq2 := (blk_cell BQ7.out 2).trans rfl; have hq3 := (blk_cell BQ7.out 3).trans rfl; have hq4 := (blk_cell BQ7.out 4).trans rfl; have hf0 := blk_frozen BQ7.out 0; have hf1 := blk_frozen BQ7.out 1; have hf2 := blk_frozen BQ7.out 2; have hf3 := blk_frozen BQ7.out 3; have hf4 := blk_frozen BQ7.out 4)
   refine bodyPost_ret (results_ct rfl _ _ gq 53 #[.int .u8 0, .int .i64 0, .int .i64 0, .int .i64 0, .int .i64 0] (0, 0) _ rfl (blk_put5 BQ7.out _ _ _ _ _) Try.underlying53 rfl (by kernel_rfl)) rfl ?_
   exact ⟨rfl, below_put5 HB7.out GQ.out _ _ _ _ _⟩
  by_cases hx : E1 = x
  ·have HG2 := HG.out
   rw [if_pos ⟨hx, he⟩] at HG2
   simp only [Prod.mk.injEq] at HG2; obtain ⟨rfl, rfl, rfl, rfl, rfl, rfl⟩ := HG2
   have b1 : (E2 != 0) = false := by simp [he]
   have b2 : (E1 != x) = false := by simp [hx]
   clear he hx HG
   go_wp2_with (go_at_call 25; (with_reducible refine (HE.out _).mono ?_); rintro e w7 ⟨rfl, hb7⟩; have BI7 := aK (blk_below BI.out hb7); have BQ7 := aK (blk_below BQ.out hb7); have HB7 := aK (below_step HB.out hb7); clear hb7 hi0 hi1 hi2 hi3 hi4; have hi0 := (blk_cell BI7.out 0).trans rfl; have hi1 := (blk_cell BI7.out 1).trans rfl; have hi2 := (blk_cell BI7.out 2).trans rfl; have hi3 := (blk_cell BI7.out 3).trans rfl; have hi4 := (blk_cell BI7.out 4).trans rfl; have hq0 := (blk_cell BQ7.out 0).trans rfl; have hq1 := (blk_cell BQ7.out 1).trans rfl; have hq2 := (blk_cell BQ7.out 2).trans rfl; have hq3 := (blk_cell BQ7.out 3).trans rfl; have hq4 := (blk_cell BQ7.out 4).trans rfl; have hf0 := blk_frozen BQ7.out 0; have hf1 := blk_frozen BQ7.out 1; have hf2 := blk_frozen BQ7.out 2; have hf3 := blk_frozen BQ7.out 3; have hf4 := blk_frozen BQ7.out 4)
   refine bodyPost_ret (results_ct rfl _ _ gq 53 #[.int .u8 (x / 67108864), .int .i64 OA, .int .i64 OB, .int .i64 OC, .int .i64 OI] (0, 0) _ rfl (blk_put5 BQ7.out _ _ _ _ _) Try.underlying53 rfl (by kernel_rfl)) rfl ?_
   exact ⟨rfl, below_put5 HB7.out GQ.out _ _ _ _ _⟩
  ·have HG2 := HG.out
   rw [if_neg (by simp [he, hx])] at HG2
   simp only [Prod.mk.injEq] at HG2; obtain ⟨rfl, rfl, rfl, rfl, rfl, rfl⟩ := HG2
   have b1 : (E2 != 0) = false := by simp [he]
   have b2 : (E1 != x) = true := by simp [hx]
   clear he hx HG
   go_wp2_with (go_at_call 25; (with_reducible refine (HE.out _).mono ?_); rintro e w7 ⟨rfl, hb7⟩; have BI7 := aK (blk_below BI.out hb7); have BQ7 := aK (blk_below BQ.out hb7); have HB7 := aK (below_step HB.out hb7); clear hb7 hi0 hi1 hi2 hi3 hi4; have hi0 := (blk_cell BI7.out 0).trans rfl; have hi1 := (blk_cell BI7.out 1).trans rfl; have hi2 := (blk_cell BI7.out 2).trans rfl; have hi3 := (blk_cell BI7.out 3).trans rfl; have hi4 := (blk_cell BI7.out 4).trans rfl; have hq0 := (blk_cell BQ7.out 0).trans rfl; have hq1 := (blk_cell BQ7.out 1).trans rfl; have hq2 := (blk_cell BQ7.out 2).trans rfl; have hq3 := (blk_cell BQ7.out 3).trans rfl; have hq4 := (blk_cell BQ7.out 4).trans rfl; have hf0 := blk_frozen BQ7.out 0; have hf1 := blk_frozen BQ7.out 1; have hf2 := blk_frozen BQ7.out 2; have hf3 := blk_frozen BQ7.out 3; have hf4 := blk_frozen BQ7.out 4)
   refine bodyPost_ret (results_ct rfl _ _ gq 53 #[.int .u8 0, .int .i64 0, .int .i64 0, .int .i64 0, .int .i64 0] (0, 0) _ rfl (blk_put5 BQ7.out _ _ _ _ _) Try.underlying53 rfl (by kernel_rfl)) rfl ?_
   exact ⟨rfl, below_put5 HB7.out GQ.out _ _ _ _ _⟩
def isa_Decode.f (a0 : Int) : Option (Int × Int × Int × Int × Int × Int) := if 0 ≤ a0 then (if a0 ≤ 4294967295 then some (isa_Decode.g a0) else none) else none
theorem isa_Decode.calls (a0 : Int) (r1 r2 r3 r4 r5 r6 : Int) (w : World) (h : isa_Decode.f a0 = some (r1, r2, r3, r4, r5, r6)) :
  Calls Try.prog 23 #[.int .u32 a0] w fun e w' => e = .returned (.tuple #[.agg #[.int .u8 r1, .int .i64 r2, .int .i64 r3, .int .i64 r4, .int .i64 r5], .int .i64 r6]) ∧ Below w.heap.size w w' := by
 unfold isa_Decode.f at h
 split at h
 ·split at h
  ·injection h with h
   rename_i h0 h1
   cases hr : (isa_find.row (a0 / 67108864)).2 with
   | true => exact isa_Decode.yes a0 h0 h1 w hr r1 r2 r3 r4 r5 r6 h
   | false =>
    have hg : isa_Decode.g a0 = (0, 0, 0, 0, 0, 3) := by unfold isa_Decode.g; rw [hr]; rfl
    rw [hg] at h
    simp only [Prod.mk.injEq] at h
    obtain ⟨rfl, rfl, rfl, rfl, rfl, rfl⟩ := h
    exact isa_Decode.no a0 h0 h1 w hr
  ·cases h
 ·cases h
def isa_IsBranch.f (a0 : Int) : Option (Bool) := if a0 ≥ 22 then (some (decide (a0 ≤ 24))) else (some false)
set_option maxHeartbeats 8000000 in
set_option maxRecDepth 100000 in
theorem isa_IsBranch.calls (a0 : Int) (r : Bool) (w : World) (h : isa_IsBranch.f a0 = some r) :
  Calls Try.prog 24 #[.int .u8 a0] w fun e w' => e = .returned (.bool r) ∧ Drawn0 w w' := by
 have H : (if a0 ≥ 22 then (some (decide (a0 ≤ 24))) else (some false)) = some r := h
 clear h
 by_cases c2 : a0 ≥ 22
 ·rw [if_pos c2] at H
  have c2b0 : decide (22 ≤ a0) = true := decide_eq_true c2
  clear c2
  obtain rfl := oI H
  go_enter Try.func24, Try.ntmps24
  go_wp2
  go_ret
  exact ⟨by first | rfl | (simp; done) | (simp [*]; done), by repeat (first | exact Drawn0.refl _ | apply Drawn0.step)⟩
 ·rw [if_neg c2] at H
  have c2b0 : decide (22 ≤ a0) = false := decide_eq_false c2
  clear c2
  obtain rfl := oI H
  go_enter Try.func24, Try.ntmps24
  go_wp2
  go_ret
  exact ⟨by first | rfl | (simp; done) | (simp [*]; done), by repeat (first | exact Drawn0.refl _ | apply Drawn0.step)⟩
def isa_Target.f (a0_0 : Int) (a0_1 : Int) (a0_2 : Int) (a0_3 : Int) (a0_4 : Int) (a1 : Int) : Option (Int × Bool) := (isa_IsBranch.f a0_0).bind fun t125 => (if t125 = true then (some (wrap64 ((wrap64 (a1 + 1)) + a0_4), true)) else (some (0, false)))
set_option maxHeartbeats 8000000 in
set_option maxRecDepth 100000 in
theorem isa_Target.calls (a0_0 : Int) (a0_1 : Int) (a0_2 : Int) (a0_3 : Int) (a0_4 : Int) (a1 : Int) (r1 : Int) (r2 : Bool) (w : World) (h : isa_Target.f a0_0 a0_1 a0_2 a0_3 a0_4 a1 = some (r1, r2)) :
  Calls Try.prog 26 #[.agg #[.int .u8 a0_0, .int .i64 a0_1, .int .i64 a0_2, .int .i64 a0_3, .int .i64 a0_4], .int .i64 a1] w fun e w' => e = .returned (.tuple #[.int .i64 r1, .bool r2]) ∧ Below w.heap.size w w' := by
 have hu53 := Try.underlying53
 have HB := aK (Below.refl w.heap.size w)
 have H : ((isa_IsBranch.f a0_0).bind fun t125 => (if t125 = true then (some (wrap64 ((wrap64 (a1 + 1)) + a0_4), true)) else (some (0, false)))) = some (r1, r2) := h
 clear h
 replace H := bM H
 obtain ⟨t125, A30, H⟩ := H
 (try dsimp only at H)
 have A3 := aK A30
 clear A30
 by_cases c4 : t125 = true
 ·subst c4
  rw [if_pos rfl] at H
  simp only [Option.some.injEq, Prod.mk.injEq] at H
  obtain ⟨rfl, rfl⟩ := H
  go_enter Try.func26, Try.ntmps26
  go_wp2_with (first | ((with_reducible refine gate_dst (N := 2) rfl ?_); refine box_event ?hg (N := 2) ?hd (cs := #[.int .u8 a0_0, .int .i64 a0_1, .int .i64 a0_2, .int .i64 a0_3, .int .i64 a0_4]) (t := 53) ?hr ?_; (case hd => rfl); (case hg => rfl); (case hr => first | (go_simp; done) | (go_simp; rfl)); intro gb124 hg w5 hbox hb; have BK124 := aK (hbox); have GW124 := aK ((by rw [hg]; exact (below_size (tB0 HB.out)) : w.heap.size ≤ gb124)); have GE124 := GW124; replace HB := aK (below_step (tB0 HB.out) hb); clear hb hbox hg; have hcz6_0 := bc 0 BK124.out; have hcz6_1 := bc 1 BK124.out; have hcz6_2 := bc 2 BK124.out; have hcz6_3 := bc 3 BK124.out; have hcz6_4 := bc 4 BK124.out; have hfz6_0 := blk_frozen BK124.out 0; have hfz6_1 := blk_frozen BK124.out 1; have hfz6_2 := blk_frozen BK124.out 2; have hfz6_3 := blk_frozen BK124.out 3; have hfz6_4 := blk_frozen BK124.out 4) | ((with_reducible refine gate_callee (f := 24) rfl ?_); refine goesL_ (some 8) rfl rfl Try.func24 (by kernel_rfl) rfl #[.int .u8 a0_0] rfl tF ?_; (with_reducible refine (isa_IsBranch.calls a0_0 true _ A3.out).mono ?_); rintro e w' ⟨rfl, ⟨nd, rfl⟩⟩; refine ⟨_, rfl, ?_⟩))
  go_ret2
  exact ⟨by first | rfl | (simp [errW_none, errW_some] <;> rfl) | (simp [*, errW_none, errW_some] <;> rfl), by repeat (first | (with_reducible first | exact HB.out | apply below_alloc | apply pw_below_drewN | apply below_drew1 | refine below_set ?_ GE124.out) | exact HB.out)⟩
 replace c4 := Bool.eq_false_iff.mpr c4
 subst c4
 rw [if_neg (show ¬ (false = true) by decide)] at H
 simp only [Option.some.injEq, Prod.mk.injEq] at H
 obtain ⟨rfl, rfl⟩ := H
 go_enter Try.func26, Try.ntmps26
 go_wp2_with (first | ((with_reducible refine gate_dst (N := 2) rfl ?_); refine box_event ?hg (N := 2) ?hd (cs := #[.int .u8 a0_0, .int .i64 a0_1, .int .i64 a0_2, .int .i64 a0_3, .int .i64 a0_4]) (t := 53) ?hr ?_; (case hd => rfl); (case hg => rfl); (case hr => first | (go_simp; done) | (go_simp; rfl)); intro gb124 hg w7 hbox hb; have BK124 := aK (hbox); have GW124 := aK ((by rw [hg]; exact (below_size (tB0 HB.out)) : w.heap.size ≤ gb124)); have GE124 := GW124; replace HB := aK (below_step (tB0 HB.out) hb); clear hb hbox hg; have hcz8_0 := bc 0 BK124.out; have hcz8_1 := bc 1 BK124.out; have hcz8_2 := bc 2 BK124.out; have hcz8_3 := bc 3 BK124.out; have hcz8_4 := bc 4 BK124.out; have hfz8_0 := blk_frozen BK124.out 0; have hfz8_1 := blk_frozen BK124.out 1; have hfz8_2 := blk_frozen BK124.out 2; have hfz8_3 := blk_frozen BK124.out 3; have hfz8_4 := blk_frozen BK124.out 4) | ((with_reducible refine gate_callee (f := 24) rfl ?_); refine goesL_ (some 8) rfl rfl Try.func24 (by kernel_rfl) rfl #[.int .u8 a0_0] rfl tF ?_; (with_reducible refine (isa_IsBranch.calls a0_0 false _ A3.out).mono ?_); rintro e w' ⟨rfl, ⟨nd, rfl⟩⟩; refine ⟨_, rfl, ?_⟩))
 go_ret2
 exact ⟨by first | rfl | (simp [errW_none, errW_some] <;> rfl) | (simp [*, errW_none, errW_some] <;> rfl), by repeat (first | (with_reducible first | exact HB.out | apply below_alloc | apply pw_below_drewN | apply below_drew1 | refine below_set ?_ GE124.out) | exact HB.out)⟩
def linker_checkWord.j0 : Nat → Bool → List Int → List (S39) → Int → Int → Int → Int → Int → Int → Int → Option (Int)
 | 0, _, _, _, _, _, _, _, _, _, _ => none
 | k + 1, x40, x127000, x127001, x127002, x127003, x136000, x136001, x136002, x136003, x136004 => if x40 = true then (some 10) else (if x136000 = 28 then (if x136004 ≥ x127003 then (some 12) else (some 0)) else (if x136000 = 29 then (if x136004 ≥ x127003 then (some 12) else (some 0)) else (some 0)))
def linker_checkWord.f (k : Nat) (l0_0 : List Int) (l0_1 : List (S39)) (a0_2 : Int) (a0_3 : Int) (a1_0 : ByteArray) (a1_1 : Int) (a1_2 : Int) (a1_3 : Int) (a2 : Int) : Option (Int) := if 0 ≤ a2 then (if a2 < (l0_0.length : Int) then ((isa_Decode.f (rd l0_0 a2)).bind fun bt129 => (if bt129.2.2.2.2.2 = 0 then ((isa_Target.f bt129.1 bt129.2.1 bt129.2.2.1 bt129.2.2.2.1 bt129.2.2.2.2.1 a2).bind fun bt136 => (if bt136.2 = true then (if bt136.1 < a1_1 then (linker_checkWord.j0 k true l0_0 l0_1 a0_2 a0_3 bt129.1 bt129.2.1 bt129.2.2.1 bt129.2.2.2.1 bt129.2.2.2.2.1) else (linker_checkWord.j0 k (decide (bt136.1 ≥ a1_2)) l0_0 l0_1 a0_2 a0_3 bt129.1 bt129.2.1 bt129.2.2.1 bt129.2.2.2.1 bt129.2.2.2.2.1)) else (linker_checkWord.j0 k false l0_0 l0_1 a0_2 a0_3 bt129.1 bt129.2.1 bt129.2.2.1 bt129.2.2.2.1 bt129.2.2.2.2.1))) else (some 3))) else (none)) else (none)
theorem linker_checkWord.mono_l : ∀ k, (∀ y0 y1 y2 y3 y4 y5 y6 y7 y8 y9, LeO (linker_checkWord.j0 k y0 y1 y2 y3 y4 y5 y6 y7 y8 y9) (linker_checkWord.j0 (k + 1) y0 y1 y2 y3 y4 y5 y6 y7 y8 y9))
 | 0 => fun _ _ _ _ _ _ _ _ _ _ r h => by simp [linker_checkWord.j0] at h
 | k + 1 => by
  have ih0 := linker_checkWord.mono_l k
  ·intro y0 y1 y2 y3 y4 y5 y6 y7 y8 y9
   unfold linker_checkWord.j0
   repeat' first
   | (with_reducible exact ih0 _ _ _ _ _ _ _ _ _ _)
   | (with_reducible exact LeO.refl _)
   | (with_reducible exact LeO.none _)
   | (with_reducible refine LeO.ite ?_ ?_)
   | (with_reducible refine LeO.bind ?_ (fun _ => ?_))
   | exact ih0 _ _ _ _ _ _ _ _ _ _
   | exact LeO.none _
   | refine LeO.ite ?_ ?_
   | refine LeO.bind ?_ (fun _ => ?_)
theorem linker_checkWord.mono : ∀ a0 a1 a2 a3 a4 a5 a6 a7 a8 k, LeO (linker_checkWord.f k a0 a1 a2 a3 a4 a5 a6 a7 a8) (linker_checkWord.f (k + 1) a0 a1 a2 a3 a4 a5 a6 a7 a8) := by
 intro a0 a1 a2 a3 a4 a5 a6 a7 a8 k
 have ih0 := linker_checkWord.mono_l k
 unfold linker_checkWord.f
 repeat' first
   | (with_reducible exact ih0 _ _ _ _ _ _ _ _ _ _)
   | (with_reducible exact LeO.refl _)
   | (with_reducible exact LeO.none _)
   | (with_reducible refine LeO.ite ?_ ?_)
   | (with_reducible refine LeO.bind ?_ (fun _ => ?_))
   | exact ih0 _ _ _ _ _ _ _ _ _ _
   | exact LeO.none _
   | refine LeO.ite ?_ ?_
   | refine LeO.bind ?_ (fun _ => ?_)
set_option maxHeartbeats 8000000 in
set_option maxRecDepth 100000 in
theorem linker_checkWord.calls (k : Nat) (A0_0 : Option Addr) (c0_0 : Nat) (l0_0 : List Int) (A0_1 : Option Addr) (c0_1 : Nat) (l0_1 : List (S39)) (a0_2 : Int) (a0_3 : Int) (a1_0 : ByteArray) (a1_1 : Int) (a1_2 : Int) (a1_3 : Int) (a2 : Int) (r : Int) (w : World) (hr0_0 : Kd.C (Kd.int .u32) w A0_0 l0_0.length l0_0) (hc0_0 : l0_0.length ≤ c0_0) (hr0_1 : Kd.C k39 w A0_1 l0_1.length l0_1) (hc0_1 : l0_1.length ≤ c0_1) (h : linker_checkWord.f k l0_0 l0_1 a0_2 a0_3 a1_0 a1_1 a1_2 a1_3 a2 = some r) :
  Calls Try.prog 42 #[.agg #[.slice A0_0 l0_0.length c0_0, .slice A0_1 l0_1.length c0_1, .int .i64 a0_2, .int .i64 a0_3], .agg #[.string a1_0, .int .i64 a1_1, .int .i64 a1_2, .int .i64 a1_3], .int .i64 a2] w fun e w' => e = .returned (.int .i64 r) ∧ Below w.heap.size w w' := by
 have hu25 := Try.underlying25
 have hu39 := Try.underlying39
 have hu53 := Try.underlying53
 have HR0_0 := aK hr0_0
 have HC0_0 := aK hc0_0
 clear hr0_0 hc0_0
 have HR0_1 := aK hr0_1
 have HC0_1 := aK hc0_1
 clear hr0_1 hc0_1
 have HB := aK (Below.refl w.heap.size w)
 have H : (if 0 ≤ a2 then (if a2 < (l0_0.length : Int) then ((isa_Decode.f (rd l0_0 a2)).bind fun bt129 => (if bt129.2.2.2.2.2 = 0 then ((isa_Target.f bt129.1 bt129.2.1 bt129.2.2.1 bt129.2.2.2.1 bt129.2.2.2.2.1 a2).bind fun bt136 => (if bt136.2 = true then (if bt136.1 < a1_1 then (linker_checkWord.j0 k true l0_0 l0_1 a0_2 a0_3 bt129.1 bt129.2.1 bt129.2.2.1 bt129.2.2.2.1 bt129.2.2.2.2.1) else (linker_checkWord.j0 k (decide (bt136.1 ≥ a1_2)) l0_0 l0_1 a0_2 a0_3 bt129.1 bt129.2.1 bt129.2.2.1 bt129.2.2.2.1 bt129.2.2.2.2.1)) else (linker_checkWord.j0 k false l0_0 l0_1 a0_2 a0_3 bt129.1 bt129.2.1 bt129.2.2.1 bt129.2.2.2.1 bt129.2.2.2.2.1))) else (some 3))) else (none)) else (none)) = some r := h
 clear h
 by_cases c4 : 0 ≤ a2
 rotate_left
 ·rw [if_neg c4] at H
  exact absurd H (by simp)
 rw [if_pos c4] at H
 have c4b0 : decide (0 ≤ a2) = true := decide_eq_true c4
 clear c4
 by_cases c5 : a2 < (l0_0.length : Int)
 rotate_left
 ·rw [if_neg c5] at H
  exact absurd H (by simp)
 rw [if_pos c5] at H
 have c5b0 : decide (a2 < (l0_0.length : Int)) = true := decide_eq_true c5
 clear c5
 replace H := bM H
 obtain ⟨⟨t129, t130, t131, t132, t133, t134⟩, A60, H⟩ := H
 (try dsimp only at H)
 have A6 := aK A60
 clear A60
 by_cases c7 : t134 = 0
 rotate_left
 ·rw [if_neg c7] at H
  have c7b0 : (t134 == 0) = false := beq_eq_false_iff_ne.mpr c7
  have c7b1 : (t134 != 0) = true := bne_iff_ne.mpr c7
  obtain rfl := oI H
  go_enter Try.func42, Try.ntmps42
  go_wp2_with (first | ((with_reducible refine gate_dst (N := 3) rfl ?_); refine box_event ?hg (N := 3) ?hd (cs := #[.slice A0_0 l0_0.length c0_0, .slice A0_1 l0_1.length c0_1, .int .i64 a0_2, .int .i64 a0_3]) (t := 25) ?hr ?_; (case hd => rfl); (case hg => rfl); (case hr => first | (go_simp; done) | (go_simp; rfl)); intro gb126 hg w56 hbox hb; have BK126 := aK (hbox); have GW126 := aK ((by rw [hg]; exact (below_size (tB0 HB.out)) : w.heap.size ≤ gb126)); have GE126 := GW126; replace HB := aK (below_step (tB0 HB.out) hb); clear hb hbox hg) | ((with_reducible refine gate_dst (N := 4) rfl ?_); refine box_event ?hg (N := 4) ?hd (cs := #[.string a1_0, .int .i64 a1_1, .int .i64 a1_2, .int .i64 a1_3]) (t := 39) ?hr ?_; (case hd => rfl); (case hg => rfl); (case hr => first | (go_simp; done) | (go_simp; rfl)); intro gb127 hg w57 hbox hb; have BK127 := aK (hbox); have GW127 := aK ((by rw [hg]; exact (below_size (tB1 HB.out GE126.out)) : w.heap.size ≤ gb127)); have GE127 := GW127; replace HB := aK (below_step (tB1 HB.out GE126.out) hb); have NB126_127 := aK ((by rw [hg]; exact Nat.ne_of_lt (blk_lt (g := gb126) (o := .cells #[.slice A0_0 l0_0.length c0_0, .slice A0_1 l0_1.length c0_1, .int .i64 a0_2, .int .i64 a0_3] 25 (0, 0)) (tK BK126.out)) : gb126 ≠ gb127)); have NB127_126 := aK ((by rw [hg]; exact Nat.ne_of_gt (blk_lt (g := gb126) (o := .cells #[.slice A0_0 l0_0.length c0_0, .slice A0_1 l0_1.length c0_1, .int .i64 a0_2, .int .i64 a0_3] 25 (0, 0)) (tK BK126.out)) : gb127 ≠ gb126)); replace BK126 := aK (blk_below (g := gb126) (tK BK126.out) hb); clear hb hbox hg; have hnb58 := NB126_127.out; have hnc58 := NB127_126.out; have hcz59_0 := bc 0 BK126.out; have hcz59_1 := bc 1 BK126.out; have hcz59_2 := bc 2 BK126.out; have hcz59_3 := bc 3 BK126.out; have hfz59_0 := blk_frozen BK126.out 0; have hfz59_1 := blk_frozen BK126.out 1; have hfz59_2 := blk_frozen BK126.out 2; have hfz59_3 := blk_frozen BK126.out 3; have p128 : 0 ≤ (a2 : Int) := tD; have q128 : a2 < (l0_0.length : Int) := tD; obtain ⟨ad128, e128, hx128_0⟩ := Kd.at_int HR0_0.out a2 p128 q128; cases e128; replace hx128_0 := cB HB.out hx128_0; replace p128 := eq_true p128; replace q128 := eq_true q128) | ((with_reducible refine gate_callee (f := 23) rfl ?_); refine goesL_ (some 17) rfl rfl Try.func23 (by kernel_rfl) rfl #[.int .u32 (rd l0_0 a2)] rfl tF ?_; (with_reducible refine (isa_Decode.calls (rd l0_0 a2) t129 t130 t131 t132 t133 t134 _ A6.out).mono ?_); rintro e w60 ⟨rfl, hb⟩; refine ⟨_, rfl, ?_⟩; replace BK126 := aK (blk_below (g := gb126) (tK BK126.out) hb); replace BK127 := aK (blk_below (g := gb127) (tK BK127.out) hb); replace HB := aK (below_step (tB2 HB.out GE126.out GE127.out) hb)) | ((with_reducible refine gate_dst (N := 7) rfl ?_); refine box_event ?hg (N := 7) ?hd (cs := #[.int .u8 0, .int .i64 0, .int .i64 0, .int .i64 0, .int .i64 0]) (t := 53) ?hr ?_; (case hd => rfl); (case hg => rfl); (case hr => first | (go_simp; done) | (go_simp; rfl)); intro gb135 hg w61 hbox hb; have BK135 := aK (hbox); have GW135 := aK ((by rw [hg]; exact (below_size (tB2 HB.out GE126.out GE127.out)) : w.heap.size ≤ gb135)); have GE135 := GW135; replace HB := aK (below_step (tB2 HB.out GE126.out GE127.out) hb); have NB126_135 := aK ((by rw [hg]; exact Nat.ne_of_lt (blk_lt (g := gb126) (o := .cells #[.slice (some ad128) l0_0.length c0_0, .slice A0_1 l0_1.length c0_1, .int .i64 a0_2, .int .i64 a0_3] 25 (0, 0)) (tK BK126.out)) : gb126 ≠ gb135)); have NB135_126 := aK ((by rw [hg]; exact Nat.ne_of_gt (blk_lt (g := gb126) (o := .cells #[.slice (some ad128) l0_0.length c0_0, .slice A0_1 l0_1.length c0_1, .int .i64 a0_2, .int .i64 a0_3] 25 (0, 0)) (tK BK126.out)) : gb135 ≠ gb126)); replace BK126 := aK (blk_below (g := gb126) (tK BK126.out) hb); have NB127_135 := aK ((by rw [hg]; exact Nat.ne_of_lt (blk_lt (g := gb127) (o := .cells #[.string a1_0, .int .i64 a1_1, .int .i64 a1_2, .int .i64 a1_3] 39 (0, 0)) (tK BK127.out)) : gb127 ≠ gb135)); have NB135_127 := aK ((by rw [hg]; exact Nat.ne_of_gt (blk_lt (g := gb127) (o := .cells #[.string a1_0, .int .i64 a1_1, .int .i64 a1_2, .int .i64 a1_3] 39 (0, 0)) (tK BK127.out)) : gb135 ≠ gb127)); replace BK127 := aK (blk_below (g := gb127) (tK BK127.out) hb); clear hb hbox hg; have hnb62 := NB135_126.out; have hnc62 := NB126_135.out; have hnb63 := NB135_127.out; have hnc63 := NB127_135.out; have hcz64_0 := bc 0 BK135.out; have hcz64_1 := bc 1 BK135.out; have hcz64_2 := bc 2 BK135.out; have hcz64_3 := bc 3 BK135.out; have hcz64_4 := bc 4 BK135.out; have hfz64_0 := blk_frozen BK135.out 0; have hfz64_1 := blk_frozen BK135.out 1; have hfz64_2 := blk_frozen BK135.out 2; have hfz64_3 := blk_frozen BK135.out 3; have hfz64_4 := blk_frozen BK135.out 4))
  go_ret
  exact ⟨by first | rfl | (simp [errW_none, errW_some] <;> rfl) | (simp [*, errW_none, errW_some] <;> rfl), by repeat (first | (with_reducible first | exact HB.out | apply below_alloc | apply pw_below_drewN | apply below_drew1 | refine below_set ?_ GE126.out | refine below_set ?_ GE127.out | refine below_set ?_ GE135.out) | exact HB.out)⟩
 rw [if_pos c7] at H
 have c7b0 : (t134 == 0) = true := beq_iff_eq.mpr c7
 have c7b1 : (t134 != 0) = false := bne_eq_false_iff_eq.mpr c7
 clear c7
 replace H := bM H
 obtain ⟨⟨t136, t137⟩, A80, H⟩ := H
 (try dsimp only at H)
 have A8 := aK A80
 clear A80
 have HC9 := aK H
 clear H
 go_enter Try.func42, Try.ntmps42
 go_upto_region 5 with (first | ((with_reducible refine gate_dst (N := 3) rfl ?_); refine box_event ?hg (N := 3) ?hd (cs := #[.slice A0_0 l0_0.length c0_0, .slice A0_1 l0_1.length c0_1, .int .i64 a0_2, .int .i64 a0_3]) (t := 25) ?hr ?_; (case hd => rfl); (case hg => rfl); (case hr => first | (go_simp; done) | (go_simp; rfl)); intro gb126 hg w10 hbox hb; have BK126 := aK (hbox); have GW126 := aK ((by rw [hg]; exact (below_size (tB0 HB.out)) : w.heap.size ≤ gb126)); have GE126 := GW126; replace HB := aK (below_step (tB0 HB.out) hb); clear hb hbox hg) | ((with_reducible refine gate_dst (N := 4) rfl ?_); refine box_event ?hg (N := 4) ?hd (cs := #[.string a1_0, .int .i64 a1_1, .int .i64 a1_2, .int .i64 a1_3]) (t := 39) ?hr ?_; (case hd => rfl); (case hg => rfl); (case hr => first | (go_simp; done) | (go_simp; rfl)); intro gb127 hg w11 hbox hb; have BK127 := aK (hbox); have GW127 := aK ((by rw [hg]; exact (below_size (tB1 HB.out GE126.out)) : w.heap.size ≤ gb127)); have GE127 := GW127; replace HB := aK (below_step (tB1 HB.out GE126.out) hb); have NB126_127 := aK ((by rw [hg]; exact Nat.ne_of_lt (blk_lt (g := gb126) (o := .cells #[.slice A0_0 l0_0.length c0_0, .slice A0_1 l0_1.length c0_1, .int .i64 a0_2, .int .i64 a0_3] 25 (0, 0)) (tK BK126.out)) : gb126 ≠ gb127)); have NB127_126 := aK ((by rw [hg]; exact Nat.ne_of_gt (blk_lt (g := gb126) (o := .cells #[.slice A0_0 l0_0.length c0_0, .slice A0_1 l0_1.length c0_1, .int .i64 a0_2, .int .i64 a0_3] 25 (0, 0)) (tK BK126.out)) : gb127 ≠ gb126)); replace BK126 := aK (blk_below (g := gb126) (tK BK126.out) hb); clear hb hbox hg; have hnb12 := NB126_127.out; have hnc12 := NB127_126.out; have hcz13_0 := bc 0 BK126.out; have hcz13_1 := bc 1 BK126.out; have hcz13_2 := bc 2 BK126.out; have hcz13_3 := bc 3 BK126.out; have hfz13_0 := blk_frozen BK126.out 0; have hfz13_1 := blk_frozen BK126.out 1; have hfz13_2 := blk_frozen BK126.out 2; have hfz13_3 := blk_frozen BK126.out 3; have p128 : 0 ≤ (a2 : Int) := tD; have q128 : a2 < (l0_0.length : Int) := tD; obtain ⟨ad128, e128, hx128_0⟩ := Kd.at_int HR0_0.out a2 p128 q128; cases e128; replace hx128_0 := cB HB.out hx128_0; replace p128 := eq_true p128; replace q128 := eq_true q128) | ((with_reducible refine gate_callee (f := 23) rfl ?_); refine goesL_ (some 17) rfl rfl Try.func23 (by kernel_rfl) rfl #[.int .u32 (rd l0_0 a2)] rfl tF ?_; (with_reducible refine (isa_Decode.calls (rd l0_0 a2) t129 t130 t131 t132 t133 t134 _ A6.out).mono ?_); rintro e w14 ⟨rfl, hb⟩; refine ⟨_, rfl, ?_⟩; replace BK126 := aK (blk_below (g := gb126) (tK BK126.out) hb); replace BK127 := aK (blk_below (g := gb127) (tK BK127.out) hb); replace HB := aK (below_step (tB2 HB.out GE126.out GE127.out) hb)) | ((with_reducible refine gate_dst (N := 7) rfl ?_); refine box_event ?hg (N := 7) ?hd (cs := #[.int .u8 0, .int .i64 0, .int .i64 0, .int .i64 0, .int .i64 0]) (t := 53) ?hr ?_; (case hd => rfl); (case hg => rfl); (case hr => first | (go_simp; done) | (go_simp; rfl)); intro gb135 hg w15 hbox hb; have BK135 := aK (hbox); have GW135 := aK ((by rw [hg]; exact (below_size (tB2 HB.out GE126.out GE127.out)) : w.heap.size ≤ gb135)); have GE135 := GW135; replace HB := aK (below_step (tB2 HB.out GE126.out GE127.out) hb); have NB126_135 := aK ((by rw [hg]; exact Nat.ne_of_lt (blk_lt (g := gb126) (o := .cells #[.slice (some ad128) l0_0.length c0_0, .slice A0_1 l0_1.length c0_1, .int .i64 a0_2, .int .i64 a0_3] 25 (0, 0)) (tK BK126.out)) : gb126 ≠ gb135)); have NB135_126 := aK ((by rw [hg]; exact Nat.ne_of_gt (blk_lt (g := gb126) (o := .cells #[.slice (some ad128) l0_0.length c0_0, .slice A0_1 l0_1.length c0_1, .int .i64 a0_2, .int .i64 a0_3] 25 (0, 0)) (tK BK126.out)) : gb135 ≠ gb126)); replace BK126 := aK (blk_below (g := gb126) (tK BK126.out) hb); have NB127_135 := aK ((by rw [hg]; exact Nat.ne_of_lt (blk_lt (g := gb127) (o := .cells #[.string a1_0, .int .i64 a1_1, .int .i64 a1_2, .int .i64 a1_3] 39 (0, 0)) (tK BK127.out)) : gb127 ≠ gb135)); have NB135_127 := aK ((by rw [hg]; exact Nat.ne_of_gt (blk_lt (g := gb127) (o := .cells #[.string a1_0, .int .i64 a1_1, .int .i64 a1_2, .int .i64 a1_3] 39 (0, 0)) (tK BK127.out)) : gb135 ≠ gb127)); replace BK127 := aK (blk_below (g := gb127) (tK BK127.out) hb); clear hb hbox hg; have hnb16 := NB135_126.out; have hnc16 := NB126_135.out; have hnb17 := NB135_127.out; have hnc17 := NB127_135.out; have hcz18_0 := bc 0 BK135.out; have hcz18_1 := bc 1 BK135.out; have hcz18_2 := bc 2 BK135.out; have hcz18_3 := bc 3 BK135.out; have hcz18_4 := bc 4 BK135.out; have hfz18_0 := blk_frozen BK135.out 0; have hfz18_1 := blk_frozen BK135.out 1; have hfz18_2 := blk_frozen BK135.out 2; have hfz18_3 := blk_frozen BK135.out 3; have hfz18_4 := blk_frozen BK135.out 4) | ((with_reducible refine gate_callee (f := 26) rfl ?_); refine goesL_ (some 25) rfl rfl Try.func26 (by kernel_rfl) rfl #[.agg #[.int .u8 t129, .int .i64 t130, .int .i64 t131, .int .i64 t132, .int .i64 t133], .int .i64 a2] rfl tF ?_; (with_reducible refine (isa_Target.calls t129 t130 t131 t132 t133 a2 t136 t137 _ A8.out).mono ?_); rintro e w19 ⟨rfl, hb⟩; refine ⟨_, rfl, ?_⟩; replace BK126 := aK (blk_below (g := gb126) (o := .cells #[.slice (some ad128) l0_0.length c0_0, .slice A0_1 l0_1.length c0_1, .int .i64 a0_2, .int .i64 a0_3] 25 (0, 0)) (by refine tK ?_; refine blk_far ?_ NB126_135.out _; refine tK ?_; refine blk_far ?_ NB126_135.out _; refine tK ?_; refine blk_far ?_ NB126_135.out _; refine tK ?_; refine blk_far ?_ NB126_135.out _; refine tK ?_; refine blk_far ?_ NB126_135.out _; refine tK ?_; exact BK126.out) hb); replace BK127 := aK (blk_below (g := gb127) (o := .cells #[.string a1_0, .int .i64 a1_1, .int .i64 a1_2, .int .i64 a1_3] 39 (0, 0)) (by refine tK ?_; refine blk_far ?_ NB127_135.out _; refine tK ?_; refine blk_far ?_ NB127_135.out _; refine tK ?_; refine blk_far ?_ NB127_135.out _; refine tK ?_; refine blk_far ?_ NB127_135.out _; refine tK ?_; refine blk_far ?_ NB127_135.out _; refine tK ?_; exact BK127.out) hb); replace BK135 := aK (blk_below (g := gb135) (o := .cells #[.int .u8 t129, .int .i64 t130, .int .i64 t131, .int .i64 t132, .int .i64 t133] 53 (0, 0)) (by refine tK ?_; refine blk_put (cs := #[.int .u8 t129, .int .i64 t130, .int .i64 t131, .int .i64 t132, .int .i64 0]) ?_ 4 _ rfl; refine tK ?_; refine blk_put (cs := #[.int .u8 t129, .int .i64 t130, .int .i64 t131, .int .i64 0, .int .i64 0]) ?_ 3 _ rfl; refine tK ?_; refine blk_put (cs := #[.int .u8 t129, .int .i64 t130, .int .i64 0, .int .i64 0, .int .i64 0]) ?_ 2 _ rfl; refine tK ?_; refine blk_put (cs := #[.int .u8 t129, .int .i64 0, .int .i64 0, .int .i64 0, .int .i64 0]) ?_ 1 _ rfl; refine tK ?_; refine blk_put (cs := #[.int .u8 0, .int .i64 0, .int .i64 0, .int .i64 0, .int .i64 0]) ?_ 0 _ rfl; refine tK ?_; exact BK135.out) hb); replace HB := aK (below_step (tB3 HB.out GE126.out GE127.out GE135.out) hb)))
 (try simp only [Act.put, pA, pB, pC])
 go_cut [40] (fun v40 wc => ∃ (kq : Nat) (x40_8 : Bool), v40 = .bool x40_8 ∧ Aside0 (linker_checkWord.j0 kq x40_8 l0_0 l0_1 a0_2 a0_3 t129 t130 t131 t132 t133 = some r) ∧ Aside0 (kq ≤ k) ∧ Aside0 (wc.heap[gb126]? = some (.cells #[(.slice (some ad128) l0_0.length c0_0), (.slice A0_1 l0_1.length c0_1), .int .i64 a0_2, .int .i64 a0_3] 25 (0, 0))) ∧ Aside0 (wc.heap[gb127]? = some (.cells #[.string a1_0, .int .i64 a1_1, .int .i64 a1_2, .int .i64 a1_3] 39 (0, 0))) ∧ Aside0 (wc.heap[gb135]? = some (.cells #[.int .u8 t129, .int .i64 t130, .int .i64 t131, .int .i64 t132, .int .i64 t133] 53 (0, 0))) ∧ Aside0 (Below w.heap.size w wc))
 case first =>
  have H := HC9.out
  clear HC9
  by_cases c20 : t137 = true
  rotate_left
  ·replace c20 := Bool.eq_false_iff.mpr c20
   subst c20
   rw [if_neg (show ¬ (false = true) by decide)] at H
   have H' := aK H
   clear H
   go_wp2
   go_meet
   case rel => exact ⟨_, (false), (by first | rfl | (simp; done) | (simp [*]; done)), H', ⟨by first | omega | exact Nat.le_refl _⟩, ⟨tK BK126.out⟩, ⟨tK BK127.out⟩, ⟨tK BK135.out⟩, ⟨tB3 HB.out GE126.out GE127.out GE135.out⟩⟩
  subst c20
  rw [if_pos rfl] at H
  by_cases c21 : t136 < a1_1
  ·rw [if_pos c21] at H
   have c21b0 : decide (t136 < a1_1) = true := decide_eq_true c21
   clear c21
   (first | rw [c21b0] | (simp only [i64_w, i32_w]; rw [c21b0]) | skip)
   have H' := aK H
   clear H
   have hnb22 := NB127_126.out
   have hnc22 := NB126_127.out
   have hnb23 := NB127_135.out
   have hnc23 := NB135_127.out
   have hcz24_0 := bc 0 BK127.out
   have hcz24_1 := bc 1 BK127.out
   have hcz24_2 := bc 2 BK127.out
   have hcz24_3 := bc 3 BK127.out
   have hfz24_0 := blk_frozen BK127.out 0
   have hfz24_1 := blk_frozen BK127.out 1
   have hfz24_2 := blk_frozen BK127.out 2
   have hfz24_3 := blk_frozen BK127.out 3
   go_wp2
   go_meet
   case rel => exact ⟨_, (true), (by first | rfl | (simp; done) | (simp [*]; done)), H', ⟨by first | omega | exact Nat.le_refl _⟩, ⟨tK BK126.out⟩, ⟨tK BK127.out⟩, ⟨tK BK135.out⟩, ⟨tB3 HB.out GE126.out GE127.out GE135.out⟩⟩
  ·rw [if_neg c21] at H
   have c21b0 : decide (t136 < a1_1) = false := decide_eq_false c21
   clear c21
   (first | rw [c21b0] | (simp only [i64_w, i32_w]; rw [c21b0]) | skip)
   have H' := aK H
   clear H
   have hnb25 := NB127_126.out
   have hnc25 := NB126_127.out
   have hnb26 := NB127_135.out
   have hnc26 := NB135_127.out
   have hcz27_0 := bc 0 BK127.out
   have hcz27_1 := bc 1 BK127.out
   have hcz27_2 := bc 2 BK127.out
   have hcz27_3 := bc 3 BK127.out
   have hfz27_0 := blk_frozen BK127.out 0
   have hfz27_1 := blk_frozen BK127.out 1
   have hfz27_2 := blk_frozen BK127.out 2
   have hfz27_3 := blk_frozen BK127.out 3
   go_wp2
   go_meet
   case rel => exact ⟨_, (decide (t136 ≥ a1_2)), (by first | rfl | (simp; done) | (simp [*]; done)), H', ⟨by first | omega | exact Nat.le_refl _⟩, ⟨tK BK126.out⟩, ⟨tK BK127.out⟩, ⟨tK BK135.out⟩, ⟨tB3 HB.out GE126.out GE127.out GE135.out⟩⟩
 clear HC9
 obtain ⟨kq, x40_8, rfl, HA, HJ8, BK126, BK127, BK135, HB⟩ := hcut
 cases kq with
 | zero => exact absurd HA.out (by simp [linker_checkWord.j0])
 | succ kj8 =>
  have H := HA.out
  clear HA
  simp only [linker_checkWord.j0] at H
  by_cases c28 : x40_8 = true
  ·subst c28
   rw [if_pos rfl] at H
   obtain rfl := oI H
   go_wp2
   go_ret
   exact ⟨by first | rfl | (simp [errW_none, errW_some] <;> rfl) | (simp [*, errW_none, errW_some] <;> rfl), by repeat (first | (with_reducible first | exact HB.out | apply below_alloc | apply pw_below_drewN | apply below_drew1 | refine below_set ?_ GE126.out | refine below_set ?_ GE127.out | refine below_set ?_ GE135.out) | exact HB.out)⟩
  replace c28 := Bool.eq_false_iff.mpr c28
  subst c28
  rw [if_neg (show ¬ (false = true) by decide)] at H
  by_cases c29 : t129 = 28
  ·rw [if_pos c29] at H
   have c29b0 : (t129 == 28) = true := beq_iff_eq.mpr c29
   have c29b1 : (t129 != 28) = false := bne_eq_false_iff_eq.mpr c29
   clear c29
   by_cases c30 : t133 ≥ a0_3
   ·rw [if_pos c30] at H
    have c30b0 : decide (a0_3 ≤ t133) = true := decide_eq_true c30
    clear c30
    obtain rfl := oI H
    have hnb31 := NB135_126.out
    have hnc31 := NB126_135.out
    have hnb32 := NB135_127.out
    have hnc32 := NB127_135.out
    have hcz33_0 := bc 0 BK135.out
    have hcz33_1 := bc 1 BK135.out
    have hcz33_2 := bc 2 BK135.out
    have hcz33_3 := bc 3 BK135.out
    have hcz33_4 := bc 4 BK135.out
    have hfz33_0 := blk_frozen BK135.out 0
    have hfz33_1 := blk_frozen BK135.out 1
    have hfz33_2 := blk_frozen BK135.out 2
    have hfz33_3 := blk_frozen BK135.out 3
    have hfz33_4 := blk_frozen BK135.out 4
    have hnb34 := NB126_127.out
    have hnc34 := NB127_126.out
    have hcz35_0 := bc 0 BK126.out
    have hcz35_1 := bc 1 BK126.out
    have hcz35_2 := bc 2 BK126.out
    have hcz35_3 := bc 3 BK126.out
    have hfz35_0 := blk_frozen BK126.out 0
    have hfz35_1 := blk_frozen BK126.out 1
    have hfz35_2 := blk_frozen BK126.out 2
    have hfz35_3 := blk_frozen BK126.out 3
    go_wp2
    go_ret
    exact ⟨by first | rfl | (simp [errW_none, errW_some] <;> rfl) | (simp [*, errW_none, errW_some] <;> rfl), by repeat (first | (with_reducible first | exact HB.out | apply below_alloc | apply pw_below_drewN | apply below_drew1 | refine below_set ?_ GE126.out | refine below_set ?_ GE127.out | refine below_set ?_ GE135.out) | exact HB.out)⟩
   ·rw [if_neg c30] at H
    have c30b0 : decide (a0_3 ≤ t133) = false := decide_eq_false c30
    clear c30
    obtain rfl := oI H
    have hnb36 := NB135_126.out
    have hnc36 := NB126_135.out
    have hnb37 := NB135_127.out
    have hnc37 := NB127_135.out
    have hcz38_0 := bc 0 BK135.out
    have hcz38_1 := bc 1 BK135.out
    have hcz38_2 := bc 2 BK135.out
    have hcz38_3 := bc 3 BK135.out
    have hcz38_4 := bc 4 BK135.out
    have hfz38_0 := blk_frozen BK135.out 0
    have hfz38_1 := blk_frozen BK135.out 1
    have hfz38_2 := blk_frozen BK135.out 2
    have hfz38_3 := blk_frozen BK135.out 3
    have hfz38_4 := blk_frozen BK135.out 4
    have hnb39 := NB126_127.out
    have hnc39 := NB127_126.out
    have hcz40_0 := bc 0 BK126.out
    have hcz40_1 := bc 1 BK126.out
    have hcz40_2 := bc 2 BK126.out
    have hcz40_3 := bc 3 BK126.out
    have hfz40_0 := blk_frozen BK126.out 0
    have hfz40_1 := blk_frozen BK126.out 1
    have hfz40_2 := blk_frozen BK126.out 2
    have hfz40_3 := blk_frozen BK126.out 3
    go_wp2
    go_ret
    exact ⟨by first | rfl | (simp [errW_none, errW_some] <;> rfl) | (simp [*, errW_none, errW_some] <;> rfl), by repeat (first | (with_reducible first | exact HB.out | apply below_alloc | apply pw_below_drewN | apply below_drew1 | refine below_set ?_ GE126.out | refine below_set ?_ GE127.out | refine below_set ?_ GE135.out) | exact HB.out)⟩
  ·rw [if_neg c29] at H
   have c29b0 : (t129 == 28) = false := beq_eq_false_iff_ne.mpr c29
   have c29b1 : (t129 != 28) = true := bne_iff_ne.mpr c29
   by_cases c41 : t129 = 29
   ·rw [if_pos c41] at H
    have c41b0 : (t129 == 29) = true := beq_iff_eq.mpr c41
    have c41b1 : (t129 != 29) = false := bne_eq_false_iff_eq.mpr c41
    clear c41
    by_cases c42 : t133 ≥ a0_3
    ·rw [if_pos c42] at H
     have c42b0 : decide (a0_3 ≤ t133) = true := decide_eq_true c42
     clear c42
     obtain rfl := oI H
     have hnb43 := NB135_126.out
     have hnc43 := NB126_135.out
     have hnb44 := NB135_127.out
     have hnc44 := NB127_135.out
     have hcz45_0 := bc 0 BK135.out
     have hcz45_1 := bc 1 BK135.out
     have hcz45_2 := bc 2 BK135.out
     have hcz45_3 := bc 3 BK135.out
     have hcz45_4 := bc 4 BK135.out
     have hfz45_0 := blk_frozen BK135.out 0
     have hfz45_1 := blk_frozen BK135.out 1
     have hfz45_2 := blk_frozen BK135.out 2
     have hfz45_3 := blk_frozen BK135.out 3
     have hfz45_4 := blk_frozen BK135.out 4
     have hnb46 := NB126_127.out
     have hnc46 := NB127_126.out
     have hcz47_0 := bc 0 BK126.out
     have hcz47_1 := bc 1 BK126.out
     have hcz47_2 := bc 2 BK126.out
     have hcz47_3 := bc 3 BK126.out
     have hfz47_0 := blk_frozen BK126.out 0
     have hfz47_1 := blk_frozen BK126.out 1
     have hfz47_2 := blk_frozen BK126.out 2
     have hfz47_3 := blk_frozen BK126.out 3
     go_wp2
     go_ret
     exact ⟨by first | rfl | (simp [errW_none, errW_some] <;> rfl) | (simp [*, errW_none, errW_some] <;> rfl), by repeat (first | (with_reducible first | exact HB.out | apply below_alloc | apply pw_below_drewN | apply below_drew1 | refine below_set ?_ GE126.out | refine below_set ?_ GE127.out | refine below_set ?_ GE135.out) | exact HB.out)⟩
    ·rw [if_neg c42] at H
     have c42b0 : decide (a0_3 ≤ t133) = false := decide_eq_false c42
     clear c42
     obtain rfl := oI H
     have hnb48 := NB135_126.out
     have hnc48 := NB126_135.out
     have hnb49 := NB135_127.out
     have hnc49 := NB127_135.out
     have hcz50_0 := bc 0 BK135.out
     have hcz50_1 := bc 1 BK135.out
     have hcz50_2 := bc 2 BK135.out
     have hcz50_3 := bc 3 BK135.out
     have hcz50_4 := bc 4 BK135.out
     have hfz50_0 := blk_frozen BK135.out 0
     have hfz50_1 := blk_frozen BK135.out 1
     have hfz50_2 := blk_frozen BK135.out 2
     have hfz50_3 := blk_frozen BK135.out 3
     have hfz50_4 := blk_frozen BK135.out 4
     have hnb51 := NB126_127.out
     have hnc51 := NB127_126.out
     have hcz52_0 := bc 0 BK126.out
     have hcz52_1 := bc 1 BK126.out
     have hcz52_2 := bc 2 BK126.out
     have hcz52_3 := bc 3 BK126.out
     have hfz52_0 := blk_frozen BK126.out 0
     have hfz52_1 := blk_frozen BK126.out 1
     have hfz52_2 := blk_frozen BK126.out 2
     have hfz52_3 := blk_frozen BK126.out 3
     go_wp2
     go_ret
     exact ⟨by first | rfl | (simp [errW_none, errW_some] <;> rfl) | (simp [*, errW_none, errW_some] <;> rfl), by repeat (first | (with_reducible first | exact HB.out | apply below_alloc | apply pw_below_drewN | apply below_drew1 | refine below_set ?_ GE126.out | refine below_set ?_ GE127.out | refine below_set ?_ GE135.out) | exact HB.out)⟩
   ·rw [if_neg c41] at H
    have c41b0 : (t129 == 29) = false := beq_eq_false_iff_ne.mpr c41
    have c41b1 : (t129 != 29) = true := bne_iff_ne.mpr c41
    obtain rfl := oI H
    have hnb53 := NB135_126.out
    have hnc53 := NB126_135.out
    have hnb54 := NB135_127.out
    have hnc54 := NB127_135.out
    have hcz55_0 := bc 0 BK135.out
    have hcz55_1 := bc 1 BK135.out
    have hcz55_2 := bc 2 BK135.out
    have hcz55_3 := bc 3 BK135.out
    have hcz55_4 := bc 4 BK135.out
    have hfz55_0 := blk_frozen BK135.out 0
    have hfz55_1 := blk_frozen BK135.out 1
    have hfz55_2 := blk_frozen BK135.out 2
    have hfz55_3 := blk_frozen BK135.out 3
    have hfz55_4 := blk_frozen BK135.out 4
    go_wp2
    go_ret
    exact ⟨by first | rfl | (simp [errW_none, errW_some] <;> rfl) | (simp [*, errW_none, errW_some] <;> rfl), by repeat (first | (with_reducible first | exact HB.out | apply below_alloc | apply pw_below_drewN | apply below_drew1 | refine below_set ?_ GE126.out | refine below_set ?_ GE127.out | refine below_set ?_ GE135.out) | exact HB.out)⟩
end Go.Proofs.Ytihmfdndiicjgaa.C
