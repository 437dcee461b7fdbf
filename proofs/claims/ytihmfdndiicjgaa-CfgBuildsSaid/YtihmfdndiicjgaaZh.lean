import Derived.Test.YtihmfdndiicjgaaCx2
import Derived.Test.YtihmfdndiicjgaaCx3
import Derived.Test.YtihmfdndiicjgaaCx4
import Derived.Outline
namespace Go.Proofs.Ytihmfdndiicjgaa.C
open Go.RowKit Go.Proofs.YtihmfdndiicjgaaW.PrintWords Go.Proofs.YtihmfdndiicjgaaW.PrintLast Go.Proofs.YtihmfdndiicjgaaW.PrintMore Go.Proofs.HMap Go.Proofs.HLaws
set_option linter.unusedVariables false
set_option linter.unusedSimpArgs false
def BuilderAt (W : World) (gb : Nat) (A : Option Addr) (n c : Nat) (nm : ByteArray) (s e d : Int) (br bl : Nat) : Prop :=
 W.heap[gb]? = some (.cells #[.slice A n c, .string nm, .int .i64 s, .int .i64 e, .int .i64 d, .map (some br), .map (some bl)] 91 (0, 0))
set_option maxHeartbeats 8000000 in
set_option maxRecDepth 100000 in
theorem cfg_builder_at.call (gb : Nat) (A : Option Addr) (n c : Nat) (nm : ByteArray) (s e d : Int) (br bl : Nat) (code : List Int) (pc : Int) (w : World)
  (hB : BuilderAt w gb A n c nm s e d br bl) (hC : Kd.C (Kd.int .u32) w A n code) (h0 : 0 ≤ pc) (h1 : pc < n) (hx0 : 0 ≤ rd code pc) (hx1 : rd code pc ≤ 4294967295) (r1 r2 r3 r4 r5 r6 : Int) (hr : isa_Decode.f (rd code pc) = some (r1, r2, r3, r4, r5, r6)) :
  Calls Try.prog 38 #[.pointer (some ⟨gb, 0, none⟩), .int .i64 pc] w fun e w' => e = .returned (.agg #[.int .u8 r1, .int .i64 r2, .int .i64 r3, .int .i64 r4, .int .i64 r5]) ∧ Below w.heap.size w w' := by
 obtain ⟨ad, rfl, hc0⟩ := (Kd.reads_of_C (d := 0) hC).at_ pc h0 h1
 have hb0 : w.cell? ⟨gb, 0, none⟩ = some (.slice (some ad) n c) := (blk_cell hB 0).trans rfl
 have HD := aK (fun w => isa_Decode.calls (rd code pc) r1 r2 r3 r4 r5 r6 w hr)
 have HCC : Aside0 (w.cell? (ad.add pc.toNat) = some (.int .u32 (rd code pc))) := ⟨hc0⟩
 have HBB := aK hb0
 clear hC hB hc0 hb0 hr
 go_enter Try.func38, Try.ntmps38
 go_wp2_with (first
  | ((refine gate_dst (N := 4) rfl ?_); refine box_event rfl rfl (cs := #[.int .u8 0, .int .i64 0, .int .i64 0, .int .i64 0, .int .i64 0]) (t := 53) ?hr ?_; (case hr => first | (go_simp; done) | (go_simp; rfl)); intro gq hgq w0 hbox hb; have BQ := aK hbox; have HB := aK hb; have GQ := aK (show w.heap.size ≤ gq by omega); have hcc := pw_cell_below hb HCC.out; have hbb := pw_cell_below hb HBB.out; clear hbox hb hgq)
  | (go_at_call 23; (with_reducible refine (HD.out _).mono ?_); rintro e w1 ⟨rfl, hb⟩; have BQ1 := aK (blk_below BQ.out hb); have HB1 := aK (below_step HB.out hb); have hq0 : ∀ o k v, #[Value.int .u8 0, .int .i64 0, .int .i64 0, .int .i64 0, .int .i64 0][k]? = some v → (w1.alloc o).cell? ⟨gq, k, none⟩ = some v := fun o k v hv => (blk_cell (blk_alloc BQ1.out o) k).trans hv; have hz0 : ∀ o k, (w1.alloc o).frozen? ⟨gq, k, none⟩ = false := fun o k => blk_frozen (blk_alloc BQ1.out o) k; clear hb hcc hbb))
 refine bodyPost_ret (results_cell_row rfl _ _ gq 53 #[.int .u8 r1, .int .i64 r2, .int .i64 r3, .int .i64 r4, .int .i64 r5] (0, 0) _ rfl (blk_put5 (blk_alloc BQ1.out _) _ _ _ _ _) Try.underlying53 rfl (by kernel_rfl)) rfl ?_
 exact ⟨rfl, below_put5 (below_alloc HB1.out _) GQ.out _ _ _ _ _⟩
end Go.Proofs.Ytihmfdndiicjgaa.C
