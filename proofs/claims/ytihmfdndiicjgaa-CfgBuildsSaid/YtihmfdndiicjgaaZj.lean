import Derived.Test.YtihmfdndiicjgaaZh
import Derived.Outline
import Derived.RegionTactic
namespace Go.Proofs.Ytihmfdndiicjgaa.C
open Go.RowKit Go.Proofs.YtihmfdndiicjgaaW.PrintWords Go.Proofs.YtihmfdndiicjgaaW.PrintLast Go.Proofs.YtihmfdndiicjgaaW.PrintMore Go.Proofs.HMap Go.Proofs.HLaws
set_option linter.unusedVariables false
set_option linter.unusedSimpArgs false
theorem own_ne_boolmap {α : Type} {d : Kd α} {P : Program} {k e e' : TypeId} {q : IntKind} {W : World} {base b n : Nat} {ok : Nat → Prop} {v : Value} {xs : List α} {g : Int → Bool} (h : d.R e W base ok v xs) (hm : BoolMap P k e' q W b n g) : some b ≠ v.ownBlock := by
 intro he
 obtain ⟨cells, hc⟩ := Kd.R_typed h b he.symm
 obtain ⟨D, ⟨es, c, h1, _⟩, _⟩ := hm
 rw [hc] at h1
 cases h1
theorem blk_ne_boolmap {P : Program} {k e' : TypeId} {q : IntKind} {W : World} {b n g : Nat} {cs : Array Value} {t : TypeId} {f : Int → Bool} (h : W.heap[g]? = some (.cells cs t (0, 0))) (hm : BoolMap P k e' q W b n f) : b ≠ g := by
 rintro rfl
 obtain ⟨D, ⟨es, c, h1, _⟩, _⟩ := hm
 rw [h] at h1
 cases h1
def cfg_explore.upd (g : Int → Bool) (x : Int) : Int → Bool := fun z => if z = x then true else g z
def cfg_explore.upds (b : Bool) (g : Int → Bool) (ss : List Int) : Int → Bool := if b then ss.foldl cfg_explore.upd g else g
def cfg_explore.lead (op : Int) : Bool := (decide (22 ≤ op) && decide (op ≤ 24)) || decide (op = 29)
def cfg_explore.l0 (code : List Int) (s e : Int) : Nat → List Int → (Int → Bool) → (Int → Bool) → Option ((Int → Bool) × (Int → Bool))
 | 0, _, _, _ => none
 | k + 1, work, r, l =>
  if 0 < work.length then
   (if -9223372036854775808 ≤ rd work (work.length - 1) ∧ rd work (work.length - 1) ≤ 9223372036854775807 then
    (if r (rd work (work.length - 1)) = true then cfg_explore.l0 code s e k (work.take (work.length - 1)) r l else
    if rd work (work.length - 1) < s then cfg_explore.l0 code s e k (work.take (work.length - 1)) r l else
    if rd work (work.length - 1) ≥ e then cfg_explore.l0 code s e k (work.take (work.length - 1)) r l else
    if 0 ≤ rd work (work.length - 1) ∧ rd work (work.length - 1) < code.length ∧ 0 ≤ rd code (rd work (work.length - 1)) ∧ rd code (rd work (work.length - 1)) ≤ 4294967295 ∧ work.length < 1099511627776 then
    (isa_Decode.f (rd code (rd work (work.length - 1)))).bind fun i =>
    (cfg_successors.f i.1 i.2.1 i.2.2.1 i.2.2.2.1 i.2.2.2.2.1 (rd work (work.length - 1))).bind fun ss =>
    cfg_explore.l0 code s e k (work.take (work.length - 1) ++ ss) (cfg_explore.upd r (rd work (work.length - 1)))
     (cfg_explore.upds (cfg_explore.lead i.1) (if i.1 = 28 then cfg_explore.upd l (rd work (work.length - 1)) else l) ss)
    else none)
    else none)
  else some (r, l)
theorem zero4 (w : World) : (zeroValue 4).run Try.prog w = .ok (.bool false) w := by kernel_rfl
theorem cfg_explore.succ_len (a b c d e pc : Int) (ss : List Int) (h : cfg_successors.f a b c d e pc = some ss) : ss.length ≤ 2 := by
 unfold cfg_successors.f at h
 obtain ⟨⟨t1, t2⟩, _, h⟩ := bM h
 dsimp only at h
 repeat' (split at h)
 all_goals (injection h with h; subst h; simp)
theorem cfg_explore.succ_wf (a b c d e pc : Int) (ss : List Int) (h : cfg_successors.f a b c d e pc = some ss) : ∀ x ∈ ss, (Lit.int .i64 x).wf = true := by
 unfold cfg_successors.f at h
 obtain ⟨⟨t1, t2⟩, ht, h⟩ := bM h
 have h1 : (Lit.int .i64 t1).wf = true := by
  unfold isa_Target.f at ht
  obtain ⟨b, _, ht⟩ := bM ht
  split at ht
  ·simp only [Option.some.injEq, Prod.mk.injEq] at ht
   rw [← ht.1]; exact wrap64_wf _
  ·simp only [Option.some.injEq, Prod.mk.injEq] at ht
   rw [← ht.1]; decide
 dsimp only at h
 repeat' (split at h)
 all_goals
  injection h with h
  subst h
  intro x hx
  first | (exfalso; simp at hx; done) | (simp only [List.mem_cons, List.not_mem_nil, or_false] at hx; rcases hx with rfl | rfl <;> (first | exact h1 | exact wrap64_wf _)) | (simp only [List.mem_cons, List.not_mem_nil, or_false] at hx; subst hx; (first | exact h1 | exact wrap64_wf _))
theorem cfg_explore.upds_snoc (g : Int → Bool) (xs : List Int) (x : Int) : cfg_explore.upds true g (xs ++ [x]) = fun z => if z = x then true else cfg_explore.upds true g xs z := by
 unfold cfg_explore.upds
 rw [if_pos rfl, if_pos rfl, List.foldl_append]
 rfl
theorem cfg_explore.upds_false (g : Int → Bool) (xs : List Int) : cfg_explore.upds false g xs = g := rfl
set_option maxHeartbeats 8000000 in
set_option maxRecDepth 100000 in
theorem cfg_explore.call (w0 w : World) (gb : Nat) (A : Option Addr) (n c : Nat) (nm : ByteArray) (s e d : Int) (br bl : Nat) (code : List Int) (hn : code.length = n) (K : Nat) (hK : K ≤ 1099511627776)
  (hW : Below w0.heap.size w0 w) (hB : BuilderAt w gb A n c nm s e d br bl) (hC : Kd.C (Kd.int .u32) w0 A n code)
  (hbr : w0.heap.size ≤ br) (hbl : w0.heap.size ≤ bl) (hrl : br ≠ bl) (hR : BoolMap Try.prog 3 4 .i64 w br 0 (fun _ => false)) (hL : BoolMap Try.prog 3 4 .i64 w bl 0 (fun _ => false)) (hs : -9223372036854775808 ≤ s ∧ s ≤ 9223372036854775807)
  (r l : Int → Bool) (h : cfg_explore.l0 code s e K [s] (fun _ => false) (cfg_explore.upd (fun _ => false) s) = some (r, l)) :
  Calls Try.prog 36 #[.pointer (some ⟨gb, 0, none⟩)] w fun en w' => en = .returned (.tuple #[]) ∧ Below w0.heap.size w0 w' ∧ BuilderAt w' gb A n c nm s e d br bl ∧ (∃ m, BoolMap Try.prog 3 4 .i64 w' br m r) ∧ (∃ m, BoolMap Try.prog 3 4 .i64 w' bl m l) := by
 have HB := aK hW
 have BB := aK hB
 have HC := aK hC
 have HR := aK hR
 have HL := aK hL
 have H' := aK h
 have GRL := aK hrl
 have GBR := aK hbr
 have GBL := aK hbl
 have hwf : (Lit.int .i64 s).wf = true := WalkArith.wf_i64 hs
 have HN := aK hn
 have hbc2 : w.cell? ⟨gb, 2, none⟩ = some (.int .i64 s) := (blk_cell (cs := #[.slice A n c, .string nm, .int .i64 s, .int .i64 e, .int .i64 d, .map (some br), .map (some bl)]) hB 2).trans rfl
 clear hB hC hR hL h hW hrl hn
 go_enter Try.func36, Try.ntmps36
 go_wp2_with (first
  | ((refine gate_dst (N := 12) rfl ?_); refine Kd.R_lit (Kd.int .i64) (w0 := w0) w0.heap.size 3 rfl (N := 12) rfl (xs := [s]) (inner := [.int .i64 s]) (ok := fun _ => True) (okp := fun _ => True) ?hr ?hp (fun _ hk => hk) trivial HB.out HB.out.size (by simp) ?_; (case hr => first | (go_simp; done) | (go_simp; rfl)); (case hp => exact (Reps.one (show Kd.M (Kd.int .i64) _ _ _ s [.int .i64 s] from rfl) (Reps.none _ _))); intro v1 w1 ho hb hg hnew; have HO := aK ho; have HB1 := aK hb; have BB1 := aK (show BuilderAt w1 gb A n c nm s e d br bl from blk_grown BB.out hg (by simp)); have HR1 := aK (HR.out.kept hg (by simp)); have HL1 := aK (HL.out.kept hg (by simp)); clear ho hb hg hnew hbc2))
 obtain ⟨w2, hrun, hm2, hg2⟩ := (show BoolMap Try.prog 3 4 .i64 w1.drew bl 0 (fun _ => false) from HL1.out).store Try.underlying89 Try.underlying3 Try.underlying4 (by decide) hwf true
 have HL2 := aK hm2
 have HG2 := aK hg2
 have c2 : w1.cell? ⟨gb, 2, none⟩ = some (.int .i64 s) := (blk_cell (cs := #[.slice A n c, .string nm, .int .i64 s, .int .i64 e, .int .i64 d, .map (some br), .map (some bl)]) BB1.out 2).trans rfl
 have c6 : w1.cell? ⟨gb, 6, none⟩ = some (.map (some bl)) := (blk_cell (cs := #[.slice A n c, .string nm, .int .i64 s, .int .i64 e, .int .i64 d, .map (some br), .map (some bl)]) BB1.out 6).trans rfl
 clear hm2 hg2
 go_region
 have BB2 := aK (show BuilderAt w2 gb A n c nm s e d br bl from blk_grown (blk_drew BB1.out) HG2.out (fun he => blk_ne_boolmap BB1.out HL1.out (oI he).symm))
 have HR2 := aK (BoolMap.kept (W := w1.drew) HR1.out HG2.out (fun he => GRL.out (oI he)))
 have HO2 := aK (Kd.R_grown2 (W := w1.drew) HO.out rfl HG2.out (fun k hk => by injection hk with hk; subst hk; exact own_ne_boolmap HO.out HL1.out))
 have HB2 := aK (pw_below_grown (below_drew HB1.out) _ HB1.out.size HG2.out (fun k hk => by injection hk with hk; subst hk; exact hbl))
 clear hrun c2 c6 HB HB1 BB BB1 HR HR1 HL HL1 HG2 HO
 go_wp2
 go_loopg [2] K (fun kq v2 wr => ∃ (work : List Int) (rf lf : Int → Bool) (nr nl : Nat), Aside0 (cfg_explore.l0 code s e kq work rf lf = some (r, l)) ∧ Aside0 (kq ≤ K ∧ nr + kq ≤ K ∧ nl + 3 * kq ≤ 1 + 3 * K) ∧ Aside0 (Kd.R (Kd.int .i64) 3 wr w0.heap.size (fun _ => True) v2 work) ∧ Aside0 (BoolMap Try.prog 3 4 .i64 wr br nr rf) ∧ Aside0 (BoolMap Try.prog 3 4 .i64 wr bl nl lf) ∧ Aside0 (BuilderAt wr gb A n c nm s e d br bl) ∧ Aside0 (Below w0.heap.size w0 wr))
 case atStart => exact ⟨[s], _, _, 0, 1, H', ⟨by omega⟩, HO2, HR2, HL2, BB2, HB2⟩
 clear HO2 HR2 HL2 BB2 HB2 H'
 obtain ⟨work, rf, lf, nr, nl, HA, HK1, HO, HR, HL, BB, HB⟩ := hrel
 cases gk with
 | zero => exact absurd HA.out (by simp [cfg_explore.l0])
 | succ k1 =>
  have H := HA.out
  clear HA
  simp only [cfg_explore.l0] at H
  obtain ⟨Ao, co, eo⟩ := Kd.R_slice HO.out
  subst eo
  by_cases hwl : 0 < work.length
  rotate_left
  ·rw [if_neg hwl] at H
   simp only [Option.some.injEq, Prod.mk.injEq] at H
   obtain ⟨rfl, rfl⟩ := H
   have hwl' : decide ((0 : Nat) < work.length) = false := decide_eq_false hwl
   have hwl2 : decide ((0 : Int) < (work.length : Int)) = false := decide_eq_false (by omega)
   go_wp2
   go_end0
   exact ⟨rfl, HB.out, BB.out, ⟨_, HR.out⟩, ⟨_, HL.out⟩⟩
  rw [if_pos hwl] at H
  have hwl' : decide ((0 : Nat) < work.length) = true := decide_eq_true hwl
  have hwl2 : decide ((0 : Int) < (work.length : Int)) = true := decide_eq_true (by omega)
  obtain ⟨ad, rfl, hcell⟩ := Kd.at_int (Kd.R_reads' HO.out).2.2 ((work.length : Int) - 1) (by omega) (by omega)
  have hcap := (Kd.R_reads' HO.out).2.1
  have hmax := Kd.C_max (Kd.R_reads' HO.out).2.2
  obtain ⟨i03, hi03, _, hsz3, _⟩ := info_parts info3
  have hcut := cut_to (P := Try.prog) 49 3 .i64 Try.underlying49 hi03 (some ad) work.length co ((work.length : Int) - 1) (by omega) (by omega) hcap
  have htn : ((work.length : Int) - 1).toNat = work.length - 1 := by omega
  have HT := aK (Kd.R_take (m := work.length - 1) HO.out (by omega))
  rw [htn] at hcell hcut
  have hlen : (work.take (work.length - 1)).length = work.length - 1 := by rw [List.length_take]; omega
  generalize hwk : work.take (work.length - 1) = wk at *
  rw [← hlen] at HT hcut
  have hwkl : wk.length < work.length := by omega
  clear hlen hwk htn hsz3 hi03
  have hpr : -9223372036854775808 ≤ rd work ((work.length : Int) - 1) ∧ rd work ((work.length : Int) - 1) ≤ 9223372036854775807 := by
   by_cases hq : -9223372036854775808 ≤ rd work ((work.length : Int) - 1) ∧ rd work ((work.length : Int) - 1) ≤ 9223372036854775807
   ·exact hq
   ·rw [if_neg hq] at H; cases H
  rw [if_pos hpr] at H
  generalize rd work ((work.length : Int) - 1) = pc at *
  have hwfp : (Lit.int .i64 pc).wf = true := WalkArith.wf_i64 hpr
  have b5 : wr.cell? ⟨gb, 5, none⟩ = some (.map (some br)) := (blk_cell (cs := #[.slice A n c, .string nm, .int .i64 s, .int .i64 e, .int .i64 d, .map (some br), .map (some bl)]) BB.out 5).trans rfl
  have b2 : wr.cell? ⟨gb, 2, none⟩ = some (.int .i64 s) := (blk_cell (cs := #[.slice A n c, .string nm, .int .i64 s, .int .i64 e, .int .i64 d, .map (some br), .map (some bl)]) BB.out 2).trans rfl
  have b3 : wr.cell? ⟨gb, 3, none⟩ = some (.int .i64 e) := (blk_cell (cs := #[.slice A n c, .string nm, .int .i64 s, .int .i64 e, .int .i64 d, .map (some br), .map (some bl)]) BB.out 3).trans rfl
  cases hr : rf pc with
  | true =>
   rw [if_pos hr] at H
   have H' := aK H
   clear H
   go_wp2_with ((refine gate_ (.lookup 89 (.tmp 39) (.tmp 40) false) rfl ?_); refine wp_look_bool rfl _ _ rfl HR.out Try.underlying89 Try.underlying3 Try.underlying4 (zero4 _) rfl _ rfl hwfp ?_)
   go_roundg k1
   case measure => have := HK1.out; omega
   case rel => exact ⟨_, _, _, _, _, H', ⟨by have := HK1.out; omega⟩, HT, HR, HL, BB, HB⟩
  | false =>
   rw [if_neg (by simp [hr])] at H
   by_cases h1 : pc < s
   ·rw [if_pos h1] at H
    have H' := aK H
    clear H
    have h1' : decide (pc < s) = true := decide_eq_true h1
    clear h1
    go_wp2_with ((refine gate_ (.lookup 89 (.tmp 39) (.tmp 40) false) rfl ?_); refine wp_look_bool rfl _ _ rfl HR.out Try.underlying89 Try.underlying3 Try.underlying4 (zero4 _) rfl _ rfl hwfp ?_)
    go_roundg k1
    case measure => have := HK1.out; omega
    case rel => exact ⟨_, _, _, _, _, H', ⟨by have := HK1.out; omega⟩, HT, HR, HL, BB, HB⟩
   rw [if_neg h1] at H
   by_cases h2 : pc ≥ e
   ·rw [if_pos h2] at H
    have H' := aK H
    clear H
    have h1' : decide (pc < s) = false := decide_eq_false h1
    have h2' : decide (e ≤ pc) = true := decide_eq_true h2
    clear h1 h2
    go_wp2_with ((refine gate_ (.lookup 89 (.tmp 39) (.tmp 40) false) rfl ?_); refine wp_look_bool rfl _ _ rfl HR.out Try.underlying89 Try.underlying3 Try.underlying4 (zero4 _) rfl _ rfl hwfp ?_)
    go_roundg k1
    case measure => have := HK1.out; omega
    case rel => exact ⟨_, _, _, _, _, H', ⟨by have := HK1.out; omega⟩, HT, HR, HL, BB, HB⟩
   rw [if_neg h2] at H
   have h1' : decide (pc < s) = false := decide_eq_false h1
   have h2' : decide (e ≤ pc) = false := decide_eq_false h2
   clear h1 h2
   by_cases h3 : 0 ≤ pc ∧ pc < code.length ∧ 0 ≤ rd code pc ∧ rd code pc ≤ 4294967295 ∧ work.length < 1099511627776
   rotate_left
   ·rw [if_neg h3] at H; cases H
   rw [if_pos h3] at H
   have HPC := aK (show 0 ≤ pc ∧ pc < n ∧ 0 ≤ rd code pc ∧ rd code pc ≤ 4294967295 from ⟨h3.1, by have := h3.2.1; have := HN.out; omega, h3.2.2.1, h3.2.2.2.1⟩)
   have HWL := aK h3.2.2.2.2
   clear h3
   obtain ⟨⟨i1, i2, i3, i4, i5, i6⟩, hde, H⟩ := bM H
   obtain ⟨ss, hsu, H⟩ := bM H
   dsimp only at hsu H
   have HDE := aK hde
   have HSU := aK hsu
   have HSL := aK (cfg_explore.succ_len _ _ _ _ _ _ _ hsu)
   have HSW := aK (cfg_explore.succ_wf _ _ _ _ _ _ _ hsu)
   clear hde hsu
   by_cases hlock : i1 = 28
   ·rw [if_pos hlock] at H
    subst hlock
    have H' := aK H
    clear H
    go_wp2_with (first | ((refine gate_ (.lookup 89 (.tmp 39) (.tmp 40) false) rfl ?_); refine wp_look_bool rfl _ _ rfl HR.out Try.underlying89 Try.underlying3 Try.underlying4 (zero4 _) rfl _ rfl hwfp ?_) | ((refine gate_ (.mapUpdate 89 (.tmp 63) (.tmp 64) (.const (.bool true))) rfl ?_); refine wp_store_bool rfl _ _ _ (.inl rfl) HR.out Try.underlying89 Try.underlying3 Try.underlying4 (by have := HK1.out; unfold maxLen; omega) rfl _ _ rfl rfl hwfp ?_; intro w3 hm hg; have HR3 := aK hm; have HL3 := aK (HL.out.kept hg (fun he => GRL.out (oI he).symm)); have BB3 := aK (show BuilderAt w3 gb A n c nm s e d br bl from blk_grown BB.out hg (fun he => blk_ne_boolmap BB.out HR.out (oI he).symm)); have HT3 := aK (Kd.R_grown2 HT.out rfl hg (fun k hk => by injection hk with hk; subst hk; exact own_ne_boolmap HT.out HR.out)); have HB3 := aK (pw_below_grown HB.out _ HB.out.size hg (fun k hk => by injection hk with hk; subst hk; exact hbr)); clear hm hg) | (go_at_call 38; (with_reducible refine (cfg_builder_at.call gb A n c nm s e d br bl code pc _ BB3.out (Kd.C_below HC.out HB3.out) HPC.out.1 HPC.out.2.1 HPC.out.2.2.1 HPC.out.2.2.2 28 i2 i3 i4 i5 i6 HDE.out).mono ?_); rintro en w4 ⟨rfl, hb⟩; have HR4 := aK (HR3.out.below hb); have HL4 := aK (HL3.out.below hb); have BB4 := aK (show BuilderAt w4 gb A n c nm s e d br bl from blk_below BB3.out hb); have HT4 := aK (Kd.R_below HT3.out hb); have HB4 := aK (below_step HB3.out hb); have hb6 : ∀ o, (w4.alloc o).cell? ⟨gb, 6, none⟩ = some (.map (some bl)) := fun o => (blk_cell (cs := #[.slice A n c, .string nm, .int .i64 s, .int .i64 e, .int .i64 d, .map (some br), .map (some bl)]) (blk_alloc BB4.out o) 6).trans rfl; clear hb) | ((refine gate_ (.mapUpdate 89 (.tmp 74) (.tmp 75) (.const (.bool true))) rfl ?_); refine wp_store_bool rfl _ _ _ (.inl rfl) (HL4.out.below (below_alloc (Below.refl _ _) _)) Try.underlying89 Try.underlying3 Try.underlying4 (by have := HK1.out; unfold maxLen; omega) rfl _ _ rfl rfl hwfp ?_; intro w5 hm hg; have HL5 := aK hm; have HR5 := aK ((HR4.out.below (below_alloc (Below.refl _ _) _)).kept hg (fun he => GRL.out (oI he))); have BB5 := aK (show BuilderAt w5 gb A n c nm s e d br bl from blk_grown (blk_alloc BB4.out _) hg (fun he => blk_ne_boolmap BB4.out HL4.out (oI he).symm)); have BI5 := aK (blk_grown (blk_new w4 _) hg (fun he => by have h1_ := HL4.out.lt; have h2_ := oI he; omega)); have HT5 := aK (Kd.R_grown2 (Kd.R_below HT4.out (below_alloc (Below.refl _ _) _)) rfl hg (fun k hk => by injection hk with hk; subst hk; exact own_ne_boolmap HT4.out HL4.out)); have HB5 := aK (pw_below_grown (below_alloc HB4.out _) _ (below_alloc HB4.out _).size hg (fun k hk => by injection hk with hk; subst hk; exact hbl)); have hci5 : w5.cell? ⟨w4.heap.size, 0, none⟩ = some (.int .u8 28) := (blk_cell BI5.out 0).trans rfl; have hcj1 := (blk_cell BI5.out 1).trans rfl; have hcj2 := (blk_cell BI5.out 2).trans rfl; have hcj3 := (blk_cell BI5.out 3).trans rfl; have hcj4 := (blk_cell BI5.out 4).trans rfl; clear hm hg hb6) | (go_at_call 37; (with_reducible refine (cfg_successors.calls 28 i2 i3 i4 i5 pc ss _ HSU.out).mono ?_); rintro en w6 ⟨vs, rfl, ho, hb⟩; have HR6 := aK (BoolMap.below HR5.out hb); have HL6 := aK (BoolMap.below HL5.out hb); have BB6 := aK (show BuilderAt w6 gb A n c nm s e d br bl from blk_below BB5.out hb); have BI6 := aK (blk_below BI5.out hb); have HT6 := aK (Kd.R_below HT5.out hb); have HS6 := aK (Kd.R_lower (Kd.R_newR ho HT5.out) (below_size HB5.out)); have HB6 := aK (below_step HB5.out hb); obtain ⟨As, cs, evs⟩ := Kd.R_slice ho; subst evs; clear hb ho hci5 hcj1 hcj2 hcj3 hcj4))
    clear HR3 HL3 BB3 HT3 HB3 HR4 HL4 BB4 HT4 HB4 HR5 HL5 BB5 BI5 HT5 HB5
    go_loopw [2, 80] (fun v ix wi => ∃ (j m : Nat), j ≤ ss.length ∧ ix = .int .i64 j ∧ Aside0 (Kd.R (Kd.int .i64) 3 wi w0.heap.size (fun _ => True) v (wk ++ ss.take j)) ∧ Aside0 (Kd.R (Kd.int .i64) 3 wi w0.heap.size (fun k => True ∧ some k ≠ v.ownBlock) (.slice As ss.length cs) ss) ∧ Aside0 (BoolMap Try.prog 3 4 .i64 wi br (nr + 1) (cfg_explore.upd rf pc)) ∧ Aside0 (m ≤ nl + 1 + j) ∧ Aside0 (BoolMap Try.prog 3 4 .i64 wi bl m (cfg_explore.upds (cfg_explore.lead 28) (cfg_explore.upd lf pc) (ss.take j))) ∧ Aside0 (BuilderAt wi gb A n c nm s e d br bl) ∧ Aside0 (wi.heap[w4.heap.size]? = some (.cells #[.int .u8 28, .int .i64 i2, .int .i64 i3, .int .i64 i4, .int .i64 i5] 53 (0, 0))) ∧ Aside0 (Below w0.heap.size w0 wi)) (fun _ ix _ => ss.length - (intOf ix).toNat)
    case atStart => exact ⟨0, nl + 1, by omega, rfl, ⟨by rw [List.take_zero, List.append_nil]; exact HT6.out⟩, HS6, HR6, ⟨by omega⟩, ⟨by rw [List.take_zero]; rw [show cfg_explore.upds (cfg_explore.lead 28) (cfg_explore.upd lf pc) [] = (cfg_explore.upd lf pc) from by unfold cfg_explore.upds; split <;> rfl]; exact HL6.out⟩, BB6, BI6, HB6⟩
    clear HR6 HL6 BB6 BI6 HT6 HS6 HB6 HR HL BB HT HB HO
    obtain ⟨j, m, hj, rfl, HO, HSS, HR, HM, HL, BB, BI, HB⟩ := hrel
    by_cases hjl : j < ss.length
    rotate_left
    ·have hjl' : decide ((j : Int) < (ss.length : Int)) = false := decide_eq_false (by omega)
     have hje : j = ss.length := by omega
     subst hje
     rw [List.take_length] at HO HL
     go_wp2
     go_roundg k1
     case measure => have := HK1.out; omega
     case rel => exact ⟨_, _, _, _, _, H', ⟨by have := HK1.out; have := HM.out; have := HSL.out; omega⟩, HO, HR, HL, BB, HB⟩
    have hjl' : decide ((j : Int) < (ss.length : Int)) = true := decide_eq_true (by omega)
    obtain ⟨ads, eas, hcs⟩ := Kd.at_int (Kd.R_reads' HSS.out).2.2 (j : Int) (by omega) (by omega)
    subst eas
    rw [Int.toNat_natCast] at hcs
    have hx2 : ss.take (j + 1) = ss.take j ++ [rd ss (j : Int)] := by rw [List.take_succ_eq_append_getElem hjl]; simp [rd, List.getD_eq_getElem?_getD, List.getElem?_eq_getElem hjl]
    have hxw : (Lit.int .i64 (rd ss (j : Int))).wf = true := HSW.out _ (by simp [rd, List.getD_eq_getElem?_getD, List.getElem?_eq_getElem hjl])
    generalize rd ss (j : Int) = x at *
    have HX2 := aK hx2
    clear hx2
    have hc0 : wr.cell? ⟨w4.heap.size, 0, none⟩ = some (.int .u8 28) := (blk_cell BI.out 0).trans rfl
    have b6 : wr.cell? ⟨gb, 6, none⟩ = some (.map (some bl)) := (blk_cell (cs := #[.slice A n c, .string nm, .int .i64 s, .int .i64 e, .int .i64 d, .map (some br), .map (some bl)]) BB.out 6).trans rfl
    have hjle := HM.out
    have hsl2 := HSL.out
    have HLD := aK (show cfg_explore.lead 28 = false by decide)
    have HIB := aK (show isa_IsBranch.f 28 = some false by decide)
    go_wp2_with (first | (go_at_call 24; (with_reducible refine (isa_IsBranch.calls 28 false _ HIB.out).mono ?_); rintro en w' ⟨rfl, ⟨nd, rfl⟩⟩) | ((refine gate_builtin (b := .append) (xs := #[.tmp 97, .tmp 99]) rfl ?_); at_builtin; refine Kd.R_append (Kd.int .i64) (w0 := w0) w0.heap.size rfl (.tmp 97) (.tmp 99) 49 3 (.int .i64 0) 8 rfl Try.underlying49 info3 rfl (by decide) (by omega) u2 (wk ++ ss.take j) x [.int .i64 x] (fun _ => True) (fun _ => False) rfl (by first | (go_simp; done) | (go_simp; rfl)) ?aP (fun _ hk => hk.elim) ?aF (Kd.R_drewN HO.out nd) (pw_below_drewN HB.out nd) ?aS ?aL ?_; (case aP => exact rfl); (case aF => exact (fun _ _ => trivial)); (case aS => exact (Below.size (pw_below_drewN HB.out nd))); (case aL => have := HWL.out; have := HSL.out; simp only [List.length_append, List.length_take]; omega); intro v9 w9 ho hb hg hat; have HO9 := aK ho; have HB9 := aK hb; have HL9 := aK (BoolMap.kept (BoolMap.block (W' := wr.drewN nd) HL.out rfl) hg (own_ne_boolmap (Kd.R_drewN HO.out nd) (BoolMap.block (W' := wr.drewN nd) HL.out rfl))); have HR9 := aK (BoolMap.kept (BoolMap.block (W' := wr.drewN nd) HR.out rfl) hg (own_ne_boolmap (Kd.R_drewN HO.out nd) (BoolMap.block (W' := wr.drewN nd) HR.out rfl))); have BB9 := aK (show BuilderAt w9 gb A n c nm s e d br bl from blk_grown (blk_drewN BB.out nd) hg (Kd.R_ne (Kd.R_drewN HO.out nd) (blk_drewN BB.out nd) (by decide))); have BI9 := aK (blk_grown (blk_drewN BI.out nd) hg (Kd.R_ne (Kd.R_drewN HO.out nd) (blk_drewN BI.out nd) (by decide))); have HS9 := aK (Kd.R_after (Kd.R_drewN HSS.out nd) hg hat); clear ho hb hg hat))
    go_roundw
    case rel => exact ⟨j + 1, m, by omega, by go_num, ⟨by rw [HX2.out, ← List.append_assoc]; exact HO9.out⟩, HS9, HR9, ⟨by omega⟩, ⟨by rw [HLD.out] at HL9 ⊢; rw [cfg_explore.upds_false] at HL9 ⊢; exact HL9.out⟩, BB9, BI9, HB9⟩
    case measure => simp [intOf]; omega
   ·have hlk : (i1 == 28) = false := by simp [hlock]
    rw [if_neg hlock] at H
    have H' := aK H
    clear H
    go_wp2_with (first | ((refine gate_ (.lookup 89 (.tmp 39) (.tmp 40) false) rfl ?_); refine wp_look_bool rfl _ _ rfl HR.out Try.underlying89 Try.underlying3 Try.underlying4 (zero4 _) rfl _ rfl hwfp ?_) | ((refine gate_ (.mapUpdate 89 (.tmp 63) (.tmp 64) (.const (.bool true))) rfl ?_); refine wp_store_bool rfl _ _ _ (.inl rfl) HR.out Try.underlying89 Try.underlying3 Try.underlying4 (by have := HK1.out; unfold maxLen; omega) rfl _ _ rfl rfl hwfp ?_; intro w3 hm hg; have HR3 := aK hm; have HL3 := aK (HL.out.kept hg (fun he => GRL.out (oI he).symm)); have BB3 := aK (show BuilderAt w3 gb A n c nm s e d br bl from blk_grown BB.out hg (fun he => blk_ne_boolmap BB.out HR.out (oI he).symm)); have HT3 := aK (Kd.R_grown2 HT.out rfl hg (fun k hk => by injection hk with hk; subst hk; exact own_ne_boolmap HT.out HR.out)); have HB3 := aK (pw_below_grown HB.out _ HB.out.size hg (fun k hk => by injection hk with hk; subst hk; exact hbr)); clear hm hg) | (go_at_call 38; (with_reducible refine (cfg_builder_at.call gb A n c nm s e d br bl code pc _ BB3.out (Kd.C_below HC.out HB3.out) HPC.out.1 HPC.out.2.1 HPC.out.2.2.1 HPC.out.2.2.2 i1 i2 i3 i4 i5 i6 HDE.out).mono ?_); rintro en w4 ⟨rfl, hb⟩; have HR4 := aK (HR3.out.below hb); have HL4 := aK (HL3.out.below hb); have BB4 := aK (show BuilderAt w4 gb A n c nm s e d br bl from blk_below BB3.out hb); have HT4 := aK (Kd.R_below HT3.out hb); have HB4 := aK (below_step HB3.out hb); clear hb) | (go_at_call 37; (with_reducible refine (cfg_successors.calls i1 i2 i3 i4 i5 pc ss _ HSU.out).mono ?_); rintro en w6 ⟨vs, rfl, ho, hb⟩; have HR6 := aK (BoolMap.below (HR4.out.below (below_alloc (Below.refl _ _) _)) hb); have HL6 := aK (BoolMap.below (HL4.out.below (below_alloc (Below.refl _ _) _)) hb); have BB6 := aK (show BuilderAt w6 gb A n c nm s e d br bl from blk_below (blk_alloc BB4.out _) hb); have BI6 := aK (blk_below (blk_new w4 _) hb); have HT6 := aK (Kd.R_below (Kd.R_below HT4.out (below_alloc (Below.refl _ _) _)) hb); have HS6 := aK (Kd.R_lower (Kd.R_newR ho (Kd.R_below HT4.out (below_alloc (Below.refl _ _) _))) (below_size (below_alloc HB4.out _))); have HB6 := aK (below_step (below_alloc HB4.out _) hb); obtain ⟨As, cs, evs⟩ := Kd.R_slice ho; subst evs; clear hb ho))
    clear HR3 HL3 BB3 HT3 HB3 HR4 HL4 BB4 HT4 HB4
    go_loopw [2, 80] (fun v ix wi => ∃ (j m : Nat), j ≤ ss.length ∧ ix = .int .i64 j ∧ Aside0 (Kd.R (Kd.int .i64) 3 wi w0.heap.size (fun _ => True) v (wk ++ ss.take j)) ∧ Aside0 (Kd.R (Kd.int .i64) 3 wi w0.heap.size (fun k => True ∧ some k ≠ v.ownBlock) (.slice As ss.length cs) ss) ∧ Aside0 (BoolMap Try.prog 3 4 .i64 wi br (nr + 1) (cfg_explore.upd rf pc)) ∧ Aside0 (m ≤ nl + 1 + j) ∧ Aside0 (BoolMap Try.prog 3 4 .i64 wi bl m (cfg_explore.upds (cfg_explore.lead i1) lf (ss.take j))) ∧ Aside0 (BuilderAt wi gb A n c nm s e d br bl) ∧ Aside0 (wi.heap[w4.heap.size]? = some (.cells #[.int .u8 i1, .int .i64 i2, .int .i64 i3, .int .i64 i4, .int .i64 i5] 53 (0, 0))) ∧ Aside0 (Below w0.heap.size w0 wi)) (fun _ ix _ => ss.length - (intOf ix).toNat)
    case atStart => exact ⟨0, nl, by omega, rfl, ⟨by rw [List.take_zero, List.append_nil]; exact HT6.out⟩, HS6, HR6, ⟨by omega⟩, ⟨by rw [List.take_zero]; rw [show cfg_explore.upds (cfg_explore.lead i1) lf [] = lf from by unfold cfg_explore.upds; split <;> rfl]; exact HL6.out⟩, BB6, BI6, HB6⟩
    clear HR6 HL6 BB6 BI6 HT6 HS6 HB6 HR HL BB HT HB HO
    obtain ⟨j, m, hj, rfl, HO, HSS, HR, HM, HL, BB, BI, HB⟩ := hrel
    by_cases hjl : j < ss.length
    rotate_left
    ·have hjl' : decide ((j : Int) < (ss.length : Int)) = false := decide_eq_false (by omega)
     have hje : j = ss.length := by omega
     subst hje
     rw [List.take_length] at HO HL
     go_wp2
     go_roundg k1
     case measure => have := HK1.out; omega
     case rel => exact ⟨_, _, _, _, _, H', ⟨by have := HK1.out; have := HM.out; have := HSL.out; omega⟩, HO, HR, HL, BB, HB⟩
    have hjl' : decide ((j : Int) < (ss.length : Int)) = true := decide_eq_true (by omega)
    obtain ⟨ads, eas, hcs⟩ := Kd.at_int (Kd.R_reads' HSS.out).2.2 (j : Int) (by omega) (by omega)
    subst eas
    rw [Int.toNat_natCast] at hcs
    have hx2 : ss.take (j + 1) = ss.take j ++ [rd ss (j : Int)] := by rw [List.take_succ_eq_append_getElem hjl]; simp [rd, List.getD_eq_getElem?_getD, List.getElem?_eq_getElem hjl]
    have hxw : (Lit.int .i64 (rd ss (j : Int))).wf = true := HSW.out _ (by simp [rd, List.getD_eq_getElem?_getD, List.getElem?_eq_getElem hjl])
    generalize rd ss (j : Int) = x at *
    have HX2 := aK hx2
    clear hx2
    have hc0 : wr.cell? ⟨w4.heap.size, 0, none⟩ = some (.int .u8 i1) := (blk_cell BI.out 0).trans rfl
    have b6 : wr.cell? ⟨gb, 6, none⟩ = some (.map (some bl)) := (blk_cell (cs := #[.slice A n c, .string nm, .int .i64 s, .int .i64 e, .int .i64 d, .map (some br), .map (some bl)]) BB.out 6).trans rfl
    have hjle := HM.out
    have hsl2 := HSL.out
    by_cases hbr1 : 22 ≤ i1 ∧ i1 ≤ 24
    ·have HLD := aK (show cfg_explore.lead i1 = true by simp [cfg_explore.lead, hbr1])
     have HIB := aK (show isa_IsBranch.f i1 = some true by unfold isa_IsBranch.f; rw [if_pos hbr1.1]; simp [hbr1.2])
     clear hbr1
     go_wp2_with (first | (go_at_call 24; (with_reducible refine (isa_IsBranch.calls i1 true _ HIB.out).mono ?_); rintro en w' ⟨rfl, ⟨nd, rfl⟩⟩) | ((refine gate_ (.mapUpdate 89 (.tmp 95) (.tmp 96) (.const (.bool true))) rfl ?_); refine wp_store_bool (W := wr.drewN nd) rfl _ _ _ (.inl rfl) (HL.out.block rfl) Try.underlying89 Try.underlying3 Try.underlying4 (by have := HK1.out; have := HM.out; have := HSL.out; unfold maxLen; omega) rfl _ _ rfl rfl hxw ?_; intro w7 hm hg; have HL7 := aK hm; have HR7 := aK (BoolMap.kept (W := wr.drewN nd) (HR.out.block rfl) hg (fun he => GRL.out (oI he))); have BB7 := aK (show BuilderAt w7 gb A n c nm s e d br bl from blk_grown (blk_drewN BB.out nd) hg (fun he => blk_ne_boolmap BB.out HL.out (oI he).symm)); have BI7 := aK (blk_grown (blk_drewN BI.out nd) hg (fun he => blk_ne_boolmap BI.out HL.out (oI he).symm)); have HO7 := aK (Kd.R_grown2 (Kd.R_drewN HO.out nd) rfl hg (fun k hk => by injection hk with hk; subst hk; exact own_ne_boolmap HO.out HL.out)); have HS7 := aK (Kd.R_grown2 (Kd.R_drewN HSS.out nd) rfl hg (fun k hk => by injection hk with hk; subst hk; exact own_ne_boolmap HSS.out HL.out)); have HB7 := aK (pw_below_grown (pw_below_drewN HB.out nd) _ HB.out.size hg (fun k hk => by injection hk with hk; subst hk; exact hbl)); clear hm hg) | ((refine gate_builtin (b := .append) (xs := #[.tmp 97, .tmp 99]) rfl ?_); at_builtin; refine Kd.R_append (Kd.int .i64) (w0 := w0) w0.heap.size rfl (.tmp 97) (.tmp 99) 49 3 (.int .i64 0) 8 rfl Try.underlying49 info3 rfl (by decide) (by omega) u2 (wk ++ ss.take j) x [.int .i64 x] (fun _ => True) (fun _ => False) rfl (by first | (go_simp; done) | (go_simp; rfl)) ?aP (fun _ hk => hk.elim) ?aF HO7.out HB7.out ?aS ?aL ?_; (case aP => exact rfl); (case aF => exact (fun _ _ => trivial)); (case aS => exact (Below.size HB7.out)); (case aL => have := HWL.out; have := HSL.out; simp only [List.length_append, List.length_take]; omega); intro v9 w9 ho hb hg hat; have HO9 := aK ho; have HB9 := aK hb; have HL9 := aK (BoolMap.kept HL7.out hg (own_ne_boolmap HO7.out HL7.out)); have HR9 := aK (BoolMap.kept HR7.out hg (own_ne_boolmap HO7.out HR7.out)); have BB9 := aK (show BuilderAt w9 gb A n c nm s e d br bl from blk_grown BB7.out hg (Kd.R_ne HO7.out BB7.out (by decide))); have BI9 := aK (blk_grown BI7.out hg (Kd.R_ne HO7.out BI7.out (by decide))); have HS9 := aK (Kd.R_after HS7.out hg hat); clear ho hb hg hat))
     go_roundw
     case rel => exact ⟨j + 1, m + 1, by omega, by go_num, ⟨by rw [HX2.out, ← List.append_assoc]; exact HO9.out⟩, HS9, HR9, ⟨by omega⟩, ⟨by rw [HX2.out, HLD.out, cfg_explore.upds_snoc]; rw [HLD.out] at HL9; exact HL9.out⟩, BB9, BI9, HB9⟩
     case measure => simp [intOf]; omega
    by_cases h29 : i1 = 29
    ·have HLD := aK (show cfg_explore.lead i1 = true by simp [cfg_explore.lead, h29])
     have HIB := aK (show isa_IsBranch.f i1 = some false by unfold isa_IsBranch.f; split; (simp; omega); rfl)
     have h29' : (i1 == 29) = true := by simp [h29]
     clear hbr1 h29
     go_wp2_with (first | (go_at_call 24; (with_reducible refine (isa_IsBranch.calls i1 false _ HIB.out).mono ?_); rintro en w' ⟨rfl, ⟨nd, rfl⟩⟩) | ((refine gate_ (.mapUpdate 89 (.tmp 95) (.tmp 96) (.const (.bool true))) rfl ?_); refine wp_store_bool (W := wr.drewN nd) rfl _ _ _ (.inl rfl) (HL.out.block rfl) Try.underlying89 Try.underlying3 Try.underlying4 (by have := HK1.out; have := HM.out; have := HSL.out; unfold maxLen; omega) rfl _ _ rfl rfl hxw ?_; intro w7 hm hg; have HL7 := aK hm; have HR7 := aK (BoolMap.kept (W := wr.drewN nd) (HR.out.block rfl) hg (fun he => GRL.out (oI he))); have BB7 := aK (show BuilderAt w7 gb A n c nm s e d br bl from blk_grown (blk_drewN BB.out nd) hg (fun he => blk_ne_boolmap BB.out HL.out (oI he).symm)); have BI7 := aK (blk_grown (blk_drewN BI.out nd) hg (fun he => blk_ne_boolmap BI.out HL.out (oI he).symm)); have HO7 := aK (Kd.R_grown2 (Kd.R_drewN HO.out nd) rfl hg (fun k hk => by injection hk with hk; subst hk; exact own_ne_boolmap HO.out HL.out)); have HS7 := aK (Kd.R_grown2 (Kd.R_drewN HSS.out nd) rfl hg (fun k hk => by injection hk with hk; subst hk; exact own_ne_boolmap HSS.out HL.out)); have HB7 := aK (pw_below_grown (pw_below_drewN HB.out nd) _ HB.out.size hg (fun k hk => by injection hk with hk; subst hk; exact hbl)); clear hm hg) | ((refine gate_builtin (b := .append) (xs := #[.tmp 97, .tmp 99]) rfl ?_); at_builtin; refine Kd.R_append (Kd.int .i64) (w0 := w0) w0.heap.size rfl (.tmp 97) (.tmp 99) 49 3 (.int .i64 0) 8 rfl Try.underlying49 info3 rfl (by decide) (by omega) u2 (wk ++ ss.take j) x [.int .i64 x] (fun _ => True) (fun _ => False) rfl (by first | (go_simp; done) | (go_simp; rfl)) ?aP (fun _ hk => hk.elim) ?aF HO7.out HB7.out ?aS ?aL ?_; (case aP => exact rfl); (case aF => exact (fun _ _ => trivial)); (case aS => exact (Below.size HB7.out)); (case aL => have := HWL.out; have := HSL.out; simp only [List.length_append, List.length_take]; omega); intro v9 w9 ho hb hg hat; have HO9 := aK ho; have HB9 := aK hb; have HL9 := aK (BoolMap.kept HL7.out hg (own_ne_boolmap HO7.out HL7.out)); have HR9 := aK (BoolMap.kept HR7.out hg (own_ne_boolmap HO7.out HR7.out)); have BB9 := aK (show BuilderAt w9 gb A n c nm s e d br bl from blk_grown BB7.out hg (Kd.R_ne HO7.out BB7.out (by decide))); have BI9 := aK (blk_grown BI7.out hg (Kd.R_ne HO7.out BI7.out (by decide))); have HS9 := aK (Kd.R_after HS7.out hg hat); clear ho hb hg hat))
     go_roundw
     case rel => exact ⟨j + 1, m + 1, by omega, by go_num, ⟨by rw [HX2.out, ← List.append_assoc]; exact HO9.out⟩, HS9, HR9, ⟨by omega⟩, ⟨by rw [HX2.out, HLD.out, cfg_explore.upds_snoc]; rw [HLD.out] at HL9; exact HL9.out⟩, BB9, BI9, HB9⟩
     case measure => simp [intOf]; omega
    ·have HLD := aK (show cfg_explore.lead i1 = false by simp [cfg_explore.lead, h29]; omega)
     have HIB := aK (show isa_IsBranch.f i1 = some false by unfold isa_IsBranch.f; split; (simp; omega); rfl)
     have h29' : (i1 == 29) = false := by simp [h29]
     clear hbr1 h29
     go_wp2_with (first | (go_at_call 24; (with_reducible refine (isa_IsBranch.calls i1 false _ HIB.out).mono ?_); rintro en w' ⟨rfl, ⟨nd, rfl⟩⟩) | ((refine gate_builtin (b := .append) (xs := #[.tmp 97, .tmp 99]) rfl ?_); at_builtin; refine Kd.R_append (Kd.int .i64) (w0 := w0) w0.heap.size rfl (.tmp 97) (.tmp 99) 49 3 (.int .i64 0) 8 rfl Try.underlying49 info3 rfl (by decide) (by omega) u2 (wk ++ ss.take j) x [.int .i64 x] (fun _ => True) (fun _ => False) rfl (by first | (go_simp; done) | (go_simp; rfl)) ?aP (fun _ hk => hk.elim) ?aF (Kd.R_drewN HO.out nd) (pw_below_drewN HB.out nd) ?aS ?aL ?_; (case aP => exact rfl); (case aF => exact (fun _ _ => trivial)); (case aS => exact (Below.size (pw_below_drewN HB.out nd))); (case aL => have := HWL.out; have := HSL.out; simp only [List.length_append, List.length_take]; omega); intro v9 w9 ho hb hg hat; have HO9 := aK ho; have HB9 := aK hb; have HL9 := aK (BoolMap.kept (BoolMap.block (W' := wr.drewN nd) HL.out rfl) hg (own_ne_boolmap (Kd.R_drewN HO.out nd) (BoolMap.block (W' := wr.drewN nd) HL.out rfl))); have HR9 := aK (BoolMap.kept (BoolMap.block (W' := wr.drewN nd) HR.out rfl) hg (own_ne_boolmap (Kd.R_drewN HO.out nd) (BoolMap.block (W' := wr.drewN nd) HR.out rfl))); have BB9 := aK (show BuilderAt w9 gb A n c nm s e d br bl from blk_grown (blk_drewN BB.out nd) hg (Kd.R_ne (Kd.R_drewN HO.out nd) (blk_drewN BB.out nd) (by decide))); have BI9 := aK (blk_grown (blk_drewN BI.out nd) hg (Kd.R_ne (Kd.R_drewN HO.out nd) (blk_drewN BI.out nd) (by decide))); have HS9 := aK (Kd.R_after (Kd.R_drewN HSS.out nd) hg hat); clear ho hb hg hat))
     go_roundw
     case rel => exact ⟨j + 1, m, by omega, by go_num, ⟨by rw [HX2.out, ← List.append_assoc]; exact HO9.out⟩, HS9, HR9, ⟨by omega⟩, ⟨by rw [HLD.out] at HL9 ⊢; rw [cfg_explore.upds_false] at HL9 ⊢; exact HL9.out⟩, BB9, BI9, HB9⟩
     case measure => simp [intOf]; omega
end Go.Proofs.Ytihmfdndiicjgaa.C
