/- gristmillref5.exprNode: the ways without a loop. Condition: the library's table of powers of ten reads as it is laid. -/
import Derived.Test.YtmoeekidmkhkoaaDoorFreeG
namespace Go.Proofs.YtmoeekidmkhkoaaDoor.FreeA
open Go.RowKit Go.Proofs.YtmoeekidmkhkoaaDoorW.PrintWords Go.Proofs.YtmoeekidmkhkoaaDoorW.PrintLast Go.Proofs.YtmoeekidmkhkoaaDoorW.PrintMore Go.Proofs.YtmoeekidmkhkoaaDoor.PFreeA
set_option linter.unusedVariables false
set_option linter.unusedSimpArgs false
def ND (w : World) (r : Ending) (w' : World) : Prop := ∃ s A n c, r = .returned (.agg #[.string s, .slice A n c, .int .i64 0]) ∧ n ≤ c ∧ NL w' w.heap.size A n ∧ Below w.heap.size w w'
def XN (e : S33) : Prop := ∀ (w : World), GG w → ∀ {A3 A4 A5 : Option Addr} {c3 c4 c5 : Nat}, Kd.C Kd.string w A3 e.f3.length e.f3 → Kd.C k33 w A4 e.f4.length e.f4 → Kd.C k40 w A5 e.f5.length e.f5 →
  Calls Tryd.prog 37 #[.agg #[.int .i64 e.f0, .string e.f1, .int .i64 e.f2, .slice A3 e.f3.length c3, .slice A4 e.f4.length c4, .slice A5 e.f5.length c5]] w (ND w)
theorem XN.at {e : S33} (h : XN e) (w : World) (hg : GG w) {A3 A4 A5 : Option Addr} {c3 c4 c5 : Nat} (h3 : Kd.C Kd.string w A3 e.f3.length e.f3) (h4 : Kd.C k33 w A4 e.f4.length e.f4) (h5 : Kd.C k40 w A5 e.f5.length e.f5) :
  Calls Tryd.prog 37 #[.agg #[.int .i64 e.f0, .string e.f1, .int .i64 e.f2, .slice A3 e.f3.length c3, .slice A4 e.f4.length c4, .slice A5 e.f5.length c5]] w (ND w) := h w hg h3 h4 h5
theorem wrapU (a : Int) : 0 ≤ IntKind.u64.wrap a ∧ IntKind.u64.wrap a < 18446744073709551616 := by rw [IntKind.wrap_u64]; omega
def EC (W : World) (p : Addr) (x : S33) (B3 B4 B5 : Option Addr) (d3 d4 d5 : Nat) : Prop := W.cell? p = some (.int .i64 x.f0) ∧ W.cell? ⟨p.block, p.off + 1, none⟩ = some (.string x.f1) ∧ W.cell? ⟨p.block, p.off + 2, none⟩ = some (.int .i64 x.f2) ∧ W.cell? ⟨p.block, p.off + 3, none⟩ = some (.slice B3 x.f3.length d3) ∧ W.cell? ⟨p.block, p.off + 4, none⟩ = some (.slice B4 x.f4.length d4) ∧ W.cell? ⟨p.block, p.off + 5, none⟩ = some (.slice B5 x.f5.length d5)
theorem elem33 {W : World} {A : Option Addr} {n : Nat} {l : List S33} (hC : k33.C W A n l) (i : Nat) {x : S33} (hx : l[i]? = some x) : ∃ ad B3 d3 B4 d4 B5 d5, A = some ad ∧ EC W (ad.add (i * 6)) x B3 B4 B5 d3 d4 d5 ∧ Kd.string.C W B3 x.f3.length x.f3 ∧ k33.C W B4 x.f4.length x.f4 ∧ k40.C W B5 x.f5.length x.f5 ∧ x.f3.length ≤ d3 ∧ x.f4.length ≤ d4 ∧ x.f5.length ≤ d5 := by
  have hi := (List.getElem?_eq_some_iff.1 hx).1
  obtain ⟨ad, B3, d3, B4, d4, B5, d5, e, c0, c1, c2, c3, c4, c5, l3, g3, l4, g4, l5, g5⟩ := at_T33 hC (i : Int) (by omega) (by have := hC.1; omega)
  have hr : rd_T33 l (i : Int) = x := by
    unfold rd_T33
    rw [Int.toNat_natCast, List.getD_eq_getElem?_getD, hx]
    rfl
  rw [hr] at c0 c1 c2 c3 c4 c5 l3 g3 l4 g4 l5 g5
  rw [Int.toNat_natCast] at c0 c1 c2 c3 c4 c5
  exact ⟨ad, B3, d3, B4, d4, B5, d5, e, ⟨c0, c1, c2, c3, c4, c5⟩, g3, g4, g5, l3, l4, l5⟩
theorem EC.below {W W1 : World} {p : Addr} {x : S33} {B3 B4 B5 : Option Addr} {d3 d4 d5 : Nat} (h : EC W p x B3 B4 B5 d3 d4 d5) (hb : Below W.heap.size W W1) : EC W1 p x B3 B4 B5 d3 d4 d5 :=
  ⟨(hb.cell (World.block_lt_of_cell? _ _ h.1)).trans h.1, (hb.cell (World.block_lt_of_cell? _ _ h.2.1)).trans h.2.1, (hb.cell (World.block_lt_of_cell? _ _ h.2.2.1)).trans h.2.2.1, (hb.cell (World.block_lt_of_cell? _ _ h.2.2.2.1)).trans h.2.2.2.1, (hb.cell (World.block_lt_of_cell? _ _ h.2.2.2.2.1)).trans h.2.2.2.2.1, (hb.cell (World.block_lt_of_cell? _ _ h.2.2.2.2.2)).trans h.2.2.2.2.2⟩
set_option maxHeartbeats 8000000 in
set_option maxRecDepth 100000 in
theorem exprNode_var (f1 : ByteArray) (f2 : Int) (w : World) (hg : GG w) {A3 A4 A5 : Option Addr} {n3 c3 n4 c4 n5 c5 : Nat} :
    Calls Tryd.prog 37 #[.agg #[.int .i64 1, .string f1, .int .i64 f2, .slice A3 n3 c3, .slice A4 n4 c4, .slice A5 n5 c5]] w (ND w) := by
  have E : ∀ W : World, ∀ o : Obj, (W.alloc o).heap.size = W.heap.size + 1 := fun W o => Array.size_push _
  obtain ⟨W0, hW0⟩ : ∃ W0, (w.alloc (.cells #[.int .i64 1, .string f1, .int .i64 f2, .slice A3 n3 c3, .slice A4 n4 c4, .slice A5 n5 c5] 33)).alloc (.cells #[.string ⟨#[]⟩, .slice none 0 0, .int .i64 0] 56) = W0 := ⟨_, rfl⟩
  have HB0 : Aside0 (Below w.heap.size w W0) := ⟨by rw [← hW0]; exact below_alloc (below_alloc (Below.refl _ _) _) _⟩
  have hbx : Aside0 (W0.heap[w.heap.size]? = some (.cells #[.int .i64 1, .string f1, .int .i64 f2, .slice A3 n3 c3, .slice A4 n4 c4, .slice A5 n5 c5] 33 (0, 0))) := ⟨by rw [← hW0]; exact (Below.heap_alloc _ _ _ (by rw [E]; omega)).trans (blk_new w _)⟩
  have hrx : Aside0 (W0.heap[w.heap.size + 1]? = some (.cells #[.string ⟨#[]⟩, .slice none 0 0, .int .i64 0] 56 (0, 0))) := ⟨by rw [← hW0, ← E w]; exact blk_new _ _⟩
  have hl1 : Aside0 (W0.heap.size = w.heap.size + 2) := ⟨by rw [← hW0, E, E]⟩
  have hg0 := Aside0.mk (GG.below hg HB0.out)
  have k0 := (blk_cell hbx.out 0).trans rfl
  have k1 := (blk_cell hbx.out 1).trans rfl
  have k2 := (blk_cell hbx.out 2).trans rfl
  have k3 := (blk_cell hbx.out 3).trans rfl
  have k4 := (blk_cell hbx.out 4).trans rfl
  have k5 := (blk_cell hbx.out 5).trans rfl
  go_enter Tryd.func37, Tryd.ntmps37
  go_wp2_with (first | (go_at_call 49; (try rw [hW0]); go_loud (with_reducible refine (w_calls f1 W0).mono ?_); rintro r w2 ⟨rfl, hb2⟩; have HB2 := Aside0.mk hb2; have hr1 := Aside0.mk (blk_below hrx.out hb2); have j0 := (blk_cell hr1.out 0).trans rfl; have j1 := (blk_cell hr1.out 1).trans rfl; have j2 := (blk_cell hr1.out 2).trans rfl; have z0 := blk_frozen hr1.out 0; have z1 := blk_frozen hr1.out 1; have z2 := blk_frozen hr1.out 2; clear hb2 k0 k1 k2 k3 k4 k5))
  refine bodyPost_ret (v := .agg #[.string f1, .slice none 0 0, .int .i64 0]) (by simp [results, Tryd.results37, go_sem, *]) rfl ⟨f1, none, 0, 0, rfl, Nat.le_refl _, NL.nil _ _, ?_⟩
  exact (((HB0.out.trans (HB2.out.mono HB0.out.size)).setCell (p := ⟨w.heap.size + 1, 0, none⟩) (Nat.le_succ _) _).setCell (p := ⟨w.heap.size + 1, 1, none⟩) (Nat.le_succ _) _).setCell (p := ⟨w.heap.size + 1, 2, none⟩) (Nat.le_succ _) _
set_option maxHeartbeats 8000000 in
set_option maxRecDepth 100000 in
theorem exprNode_con (f1 : ByteArray) (f2 : Int) (w : World) (hg : GG w) {A3 A4 A5 : Option Addr} {n3 c3 n4 c4 n5 c5 : Nat} :
    Calls Tryd.prog 37 #[.agg #[.int .i64 4, .string f1, .int .i64 f2, .slice A3 n3 c3, .slice A4 n4 c4, .slice A5 n5 c5]] w (ND w) := by
  have E : ∀ W : World, ∀ o : Obj, (W.alloc o).heap.size = W.heap.size + 1 := fun W o => Array.size_push _
  obtain ⟨W0, hW0⟩ : ∃ W0, (w.alloc (.cells #[.int .i64 4, .string f1, .int .i64 f2, .slice A3 n3 c3, .slice A4 n4 c4, .slice A5 n5 c5] 33)).alloc (.cells #[.string ⟨#[]⟩, .slice none 0 0, .int .i64 0] 56) = W0 := ⟨_, rfl⟩
  have HB0 : Aside0 (Below w.heap.size w W0) := ⟨by rw [← hW0]; exact below_alloc (below_alloc (Below.refl _ _) _) _⟩
  have hbx : Aside0 (W0.heap[w.heap.size]? = some (.cells #[.int .i64 4, .string f1, .int .i64 f2, .slice A3 n3 c3, .slice A4 n4 c4, .slice A5 n5 c5] 33 (0, 0))) := ⟨by rw [← hW0]; exact (Below.heap_alloc _ _ _ (by rw [E]; omega)).trans (blk_new w _)⟩
  have hrx : Aside0 (W0.heap[w.heap.size + 1]? = some (.cells #[.string ⟨#[]⟩, .slice none 0 0, .int .i64 0] 56 (0, 0))) := ⟨by rw [← hW0, ← E w]; exact blk_new _ _⟩
  have hl1 : Aside0 (W0.heap.size = w.heap.size + 2) := ⟨by rw [← hW0, E, E]⟩
  have hg0 := Aside0.mk (GG.below hg HB0.out)
  have k0 := (blk_cell hbx.out 0).trans rfl
  have k1 := (blk_cell hbx.out 1).trans rfl
  have k2 := (blk_cell hbx.out 2).trans rfl
  have k3 := (blk_cell hbx.out 3).trans rfl
  have k4 := (blk_cell hbx.out 4).trans rfl
  have k5 := (blk_cell hbx.out 5).trans rfl
  go_enter Tryd.func37, Tryd.ntmps37
  go_wp2_with (first | (go_at_call 49; (try rw [hW0]); go_loud (with_reducible refine (w_calls f1 W0).mono ?_); rintro r w2 ⟨rfl, hb2⟩; have HB2 := Aside0.mk hb2; have hr1 := Aside0.mk (blk_below hrx.out hb2); have j0 := (blk_cell hr1.out 0).trans rfl; have j1 := (blk_cell hr1.out 1).trans rfl; have j2 := (blk_cell hr1.out 2).trans rfl; have z0 := blk_frozen hr1.out 0; have z1 := blk_frozen hr1.out 1; have z2 := blk_frozen hr1.out 2; clear hb2 k0 k1 k2 k3 k4 k5))
  refine bodyPost_ret (v := .agg #[.string f1, .slice none 0 0, .int .i64 0]) (by simp [results, Tryd.results37, go_sem, *]) rfl ⟨f1, none, 0, 0, rfl, Nat.le_refl _, NL.nil _ _, ?_⟩
  exact (((HB0.out.trans (HB2.out.mono HB0.out.size)).setCell (p := ⟨w.heap.size + 1, 0, none⟩) (Nat.le_succ _) _).setCell (p := ⟨w.heap.size + 1, 1, none⟩) (Nat.le_succ _) _).setCell (p := ⟨w.heap.size + 1, 2, none⟩) (Nat.le_succ _) _
set_option maxHeartbeats 8000000 in
set_option maxRecDepth 100000 in
theorem exprNode_int (f1 : ByteArray) (f2 : Int) (w : World) (hg : GG w) {A3 A4 A5 : Option Addr} {n3 c3 n4 c4 n5 c5 : Nat} (h0 : -9223372036854775808 ≤ f2) (h1 : f2 ≤ 9223372036854775807) :
    Calls Tryd.prog 37 #[.agg #[.int .i64 2, .string f1, .int .i64 f2, .slice A3 n3 c3, .slice A4 n4 c4, .slice A5 n5 c5]] w (ND w) := by
  have E : ∀ W : World, ∀ o : Obj, (W.alloc o).heap.size = W.heap.size + 1 := fun W o => Array.size_push _
  obtain ⟨W0, hW0⟩ : ∃ W0, (w.alloc (.cells #[.int .i64 2, .string f1, .int .i64 f2, .slice A3 n3 c3, .slice A4 n4 c4, .slice A5 n5 c5] 33)).alloc (.cells #[.string ⟨#[]⟩, .slice none 0 0, .int .i64 0] 56) = W0 := ⟨_, rfl⟩
  have HB0 : Aside0 (Below w.heap.size w W0) := ⟨by rw [← hW0]; exact below_alloc (below_alloc (Below.refl _ _) _) _⟩
  have hbx : Aside0 (W0.heap[w.heap.size]? = some (.cells #[.int .i64 2, .string f1, .int .i64 f2, .slice A3 n3 c3, .slice A4 n4 c4, .slice A5 n5 c5] 33 (0, 0))) := ⟨by rw [← hW0]; exact (Below.heap_alloc _ _ _ (by rw [E]; omega)).trans (blk_new w _)⟩
  have hrx : Aside0 (W0.heap[w.heap.size + 1]? = some (.cells #[.string ⟨#[]⟩, .slice none 0 0, .int .i64 0] 56 (0, 0))) := ⟨by rw [← hW0, ← E w]; exact blk_new _ _⟩
  have hl1 : Aside0 (W0.heap.size = w.heap.size + 2) := ⟨by rw [← hW0, E, E]⟩
  have hg0 := Aside0.mk (GG.below hg HB0.out)
  have k0 := (blk_cell hbx.out 0).trans rfl
  have k1 := (blk_cell hbx.out 1).trans rfl
  have k2 := (blk_cell hbx.out 2).trans rfl
  have k3 := (blk_cell hbx.out 3).trans rfl
  have k4 := (blk_cell hbx.out 4).trans rfl
  have k5 := (blk_cell hbx.out 5).trans rfl
  have TN := numText_calls f2 h0 h1 W0 hg0.out
  go_enter Tryd.func37, Tryd.ntmps37
  go_wp2_with (first | (go_at_call 50; (try rw [hW0]); go_loud (with_reducible refine TN.mono ?_); rintro r w1 ⟨s1, rfl, hb1⟩; have HB1 := Aside0.mk hb1; clear TN hb1) | (go_at_call 49; (try rw [hW0]); go_loud (with_reducible refine (w_calls s1 w1).mono ?_); rintro r w2 ⟨rfl, hb2⟩; have HB2 := Aside0.mk (below_step HB1.out hb2); have hr1 := Aside0.mk (blk_below hrx.out HB2.out); have j0 := (blk_cell hr1.out 0).trans rfl; have j1 := (blk_cell hr1.out 1).trans rfl; have j2 := (blk_cell hr1.out 2).trans rfl; have z0 := blk_frozen hr1.out 0; have z1 := blk_frozen hr1.out 1; have z2 := blk_frozen hr1.out 2; clear hb2 k0 k1 k2 k3 k4 k5))
  refine bodyPost_ret (v := .agg #[.string s1, .slice none 0 0, .int .i64 0]) (by simp [results, Tryd.results37, go_sem, *]) rfl ⟨s1, none, 0, 0, rfl, Nat.le_refl _, NL.nil _ _, ?_⟩
  exact (((HB0.out.trans (HB2.out.mono HB0.out.size)).setCell (p := ⟨w.heap.size + 1, 0, none⟩) (Nat.le_succ _) _).setCell (p := ⟨w.heap.size + 1, 1, none⟩) (Nat.le_succ _) _).setCell (p := ⟨w.heap.size + 1, 2, none⟩) (Nat.le_succ _) _
set_option maxHeartbeats 8000000 in
set_option maxRecDepth 100000 in
theorem exprNode_flo (f1 : ByteArray) (f2 : Int) (w : World) (hg : GG w) {A3 A4 A5 : Option Addr} {n3 c3 n4 c4 n5 c5 : Nat} :
    Calls Tryd.prog 37 #[.agg #[.int .i64 3, .string f1, .int .i64 f2, .slice A3 n3 c3, .slice A4 n4 c4, .slice A5 n5 c5]] w (ND w) := by
  have E : ∀ W : World, ∀ o : Obj, (W.alloc o).heap.size = W.heap.size + 1 := fun W o => Array.size_push _
  obtain ⟨W0, hW0⟩ : ∃ W0, (w.alloc (.cells #[.int .i64 3, .string f1, .int .i64 f2, .slice A3 n3 c3, .slice A4 n4 c4, .slice A5 n5 c5] 33)).alloc (.cells #[.string ⟨#[]⟩, .slice none 0 0, .int .i64 0] 56) = W0 := ⟨_, rfl⟩
  have HB0 : Aside0 (Below w.heap.size w W0) := ⟨by rw [← hW0]; exact below_alloc (below_alloc (Below.refl _ _) _) _⟩
  have hbx : Aside0 (W0.heap[w.heap.size]? = some (.cells #[.int .i64 3, .string f1, .int .i64 f2, .slice A3 n3 c3, .slice A4 n4 c4, .slice A5 n5 c5] 33 (0, 0))) := ⟨by rw [← hW0]; exact (Below.heap_alloc _ _ _ (by rw [E]; omega)).trans (blk_new w _)⟩
  have hrx : Aside0 (W0.heap[w.heap.size + 1]? = some (.cells #[.string ⟨#[]⟩, .slice none 0 0, .int .i64 0] 56 (0, 0))) := ⟨by rw [← hW0, ← E w]; exact blk_new _ _⟩
  have hl1 : Aside0 (W0.heap.size = w.heap.size + 2) := ⟨by rw [← hW0, E, E]⟩
  have hg0 := Aside0.mk (GG.below hg HB0.out)
  have k0 := (blk_cell hbx.out 0).trans rfl
  have k1 := (blk_cell hbx.out 1).trans rfl
  have k2 := (blk_cell hbx.out 2).trans rfl
  have k3 := (blk_cell hbx.out 3).trans rfl
  have k4 := (blk_cell hbx.out 4).trans rfl
  have k5 := (blk_cell hbx.out 5).trans rfl
  have TN := floText_calls (IntKind.u64.wrap f2) (wrapU f2).1 (wrapU f2).2 W0 hg0.out
  go_enter Tryd.func37, Tryd.ntmps37
  go_wp2_with (first | (go_at_call 51; (try rw [hW0]); go_loud (with_reducible refine TN.mono ?_); rintro r w1 ⟨s1, rfl, hb1⟩; have HB1 := Aside0.mk hb1; clear TN hb1) | (go_at_call 49; (try rw [hW0]); go_loud (with_reducible refine (w_calls s1 w1).mono ?_); rintro r w2 ⟨rfl, hb2⟩; have HB2 := Aside0.mk (below_step HB1.out hb2); have hr1 := Aside0.mk (blk_below hrx.out HB2.out); have j0 := (blk_cell hr1.out 0).trans rfl; have j1 := (blk_cell hr1.out 1).trans rfl; have j2 := (blk_cell hr1.out 2).trans rfl; have z0 := blk_frozen hr1.out 0; have z1 := blk_frozen hr1.out 1; have z2 := blk_frozen hr1.out 2; clear hb2 k0 k1 k2 k3 k4 k5))
  refine bodyPost_ret (v := .agg #[.string s1, .slice none 0 0, .int .i64 0]) (by simp [results, Tryd.results37, go_sem, *]) rfl ⟨s1, none, 0, 0, rfl, Nat.le_refl _, NL.nil _ _, ?_⟩
  exact (((HB0.out.trans (HB2.out.mono HB0.out.size)).setCell (p := ⟨w.heap.size + 1, 0, none⟩) (Nat.le_succ _) _).setCell (p := ⟨w.heap.size + 1, 1, none⟩) (Nat.le_succ _) _).setCell (p := ⟨w.heap.size + 1, 2, none⟩) (Nat.le_succ _) _
set_option maxHeartbeats 8000000 in
set_option maxRecDepth 100000 in
theorem exprNode_fail (f1 : ByteArray) (f2 : Int) (w : World) (hg : GG w) {A3 A4 A5 : Option Addr} {n3 c3 n4 c4 n5 c5 : Nat} (h0 : -9223372036854775808 ≤ f2) (h1 : f2 ≤ 9223372036854775807) :
    Calls Tryd.prog 37 #[.agg #[.int .i64 10, .string f1, .int .i64 f2, .slice A3 n3 c3, .slice A4 n4 c4, .slice A5 n5 c5]] w (ND w) := by
  have E : ∀ W : World, ∀ o : Obj, (W.alloc o).heap.size = W.heap.size + 1 := fun W o => Array.size_push _
  obtain ⟨W0, hW0⟩ : ∃ W0, (w.alloc (.cells #[.int .i64 10, .string f1, .int .i64 f2, .slice A3 n3 c3, .slice A4 n4 c4, .slice A5 n5 c5] 33)).alloc (.cells #[.string ⟨#[]⟩, .slice none 0 0, .int .i64 0] 56) = W0 := ⟨_, rfl⟩
  have HB0 : Aside0 (Below w.heap.size w W0) := ⟨by rw [← hW0]; exact below_alloc (below_alloc (Below.refl _ _) _) _⟩
  have hbx : Aside0 (W0.heap[w.heap.size]? = some (.cells #[.int .i64 10, .string f1, .int .i64 f2, .slice A3 n3 c3, .slice A4 n4 c4, .slice A5 n5 c5] 33 (0, 0))) := ⟨by rw [← hW0]; exact (Below.heap_alloc _ _ _ (by rw [E]; omega)).trans (blk_new w _)⟩
  have hrx : Aside0 (W0.heap[w.heap.size + 1]? = some (.cells #[.string ⟨#[]⟩, .slice none 0 0, .int .i64 0] 56 (0, 0))) := ⟨by rw [← hW0, ← E w]; exact blk_new _ _⟩
  have hl1 : Aside0 (W0.heap.size = w.heap.size + 2) := ⟨by rw [← hW0, E, E]⟩
  have hg0 := Aside0.mk (GG.below hg HB0.out)
  have k0 := (blk_cell hbx.out 0).trans rfl
  have k1 := (blk_cell hbx.out 1).trans rfl
  have k2 := (blk_cell hbx.out 2).trans rfl
  have k3 := (blk_cell hbx.out 3).trans rfl
  have k4 := (blk_cell hbx.out 4).trans rfl
  have k5 := (blk_cell hbx.out 5).trans rfl
  have hl5 : Aside0 (w.heap.size + 1 < W0.heap.size) := ⟨by have := hl1.out; omega⟩
  go_enter Tryd.func37, Tryd.ntmps37
  go_wp2
  (try rw [hW0])
  clear hW0 k0 k1 k2 k3 k4 k5
  have HB_ : Below W0.heap.size W0 W0.drew := below_drew1 (Below.refl _ _)
  have hg9 := Aside0.mk (GG.below hg0.out HB_)
  refine start_ (n := 8) (S := fun w' => w'.cell? ⟨w.heap.size, 2, none⟩ = some (.int .i64 f2)) (ds := [7]) #[false, false, false, false, false, false, false, false] (by kernel_rfl) rfl rfl ((blk_cell (blk_below hbx.out HB_) 2).trans rfl) (fun hHeld => ?_)
  generalize W0.drew = W9 at *
  refine pure_ (i := 1) (N := some 121) (v := ?_) (a' := ?_) #[false, true, false, false, false, false, false, false] rfl rfl (by kernel_rfl) (fun _ _ _ h => h) (Or.inl ⟨by rfl, ?_⟩) ?_ ?_
  rotate_left
  · intro w'
    go_simp
    with_reducible rfl
  rotate_left
  · simp only [Act.put, List.setIfInBounds_toArray, List.set_cons_zero, List.set_cons_succ, i64_w, i32_w]
    rfl
  refine take_ (i := 2) (N := some 122) (v := ?_) (a' := ?_) #[false, true, true, false, false, false, false, false] rfl rfl (by kernel_rfl) (fun _ _ _ h => h) (Or.inl ⟨by rfl, ?_⟩) hHeld ?_ ?_
  rotate_left
  · intro w' s0
    go_simp
    with_reducible rfl
  rotate_left
  · simp only [Act.put, List.setIfInBounds_toArray, List.set_cons_zero, List.set_cons_succ, i64_w, i32_w]
    rfl
  refine one_ (i := 0) (N := some 120) #[true, true, true, false, false, false, false, false] rfl rfl (by kernel_rfl) (by decide) (fun K hK => ?_)
  refine goes_ Tryd.func49 (by kernel_rfl) rfl #[.string ⟨#[102, 97, 105, 108]⟩] (by rfl) rfl rfl (by simp only [List.map_toArray, List.map_cons, List.map_nil]; rfl) ?_
  (with_reducible refine (w_calls _ W9).mono ?_)
  rintro e w2 ⟨rfl, hbq2⟩
  refine ⟨_, rfl, ?_⟩
  have HB2 := below_step HB_ hbq2
  refine hK.out _ _ ((blk_cell (blk_below hbx.out HB2) 2).trans rfl) (fun hHeld => ?_)
  clear hK K
  refine norm_ (a' := ?_) ?_ ?_
  rotate_left
  · show Act.put _ (some 120) _ = _
    simp only [Act.put, List.setIfInBounds_toArray, List.set_cons_zero, List.set_cons_succ, i64_w, i32_w]
    rfl
  refine one_ (i := 3) (N := some 123) #[true, true, true, true, false, false, false, false] rfl rfl (by kernel_rfl) (by decide) (fun K hK => ?_)
  refine goes_ Tryd.func50 (by kernel_rfl) rfl #[.int .i64 f2] (by rfl) rfl rfl (by simp only [List.map_toArray, List.map_cons, List.map_nil]; rfl) ?_
  (with_reducible refine (numText_calls f2 h0 h1 w2 (GG.below hg0.out HB2)).mono ?_)
  rintro e w3 ⟨s1, rfl, hbq3⟩
  refine ⟨_, rfl, ?_⟩
  have HB3 := below_step HB2 hbq3
  refine hK.out _ _ ((blk_cell (blk_below hbx.out HB3) 2).trans rfl) (fun hHeld => ?_)
  clear hK K
  refine norm_ (a' := ?_) ?_ ?_
  rotate_left
  · show Act.put _ (some 123) _ = _
    simp only [Act.put, List.setIfInBounds_toArray, List.set_cons_zero, List.set_cons_succ, i64_w, i32_w]
    rfl
  refine one_ (i := 4) (N := some 124) #[true, true, true, true, true, false, false, false] rfl rfl (by kernel_rfl) (by decide) (fun K hK => ?_)
  refine goes_ Tryd.func49 (by kernel_rfl) rfl #[.string s1] (by rfl) rfl rfl (by simp only [List.map_toArray, List.map_cons, List.map_nil]; rfl) ?_
  (with_reducible refine (w_calls s1 w3).mono ?_)
  rintro e w4 ⟨rfl, hbq4⟩
  refine ⟨_, rfl, ?_⟩
  have HB4 := below_step HB3 hbq4
  refine hK.out _ _ ((blk_cell (blk_below hbx.out HB4) 2).trans rfl) (fun hHeld => ?_)
  clear hK K
  refine norm_ (a' := ?_) ?_ ?_
  rotate_left
  · show Act.put _ (some 124) _ = _
    simp only [Act.put, List.setIfInBounds_toArray, List.set_cons_zero, List.set_cons_succ, i64_w, i32_w]
    rfl
  refine one_ (i := 5) (N := some 125) #[true, true, true, true, true, true, false, false] rfl rfl (by kernel_rfl) (by decide) (fun K hK => ?_)
  refine value_ (w1 := ?_) (v := ?_) (by rfl) rfl ?_ ?_
  rotate_left 2
  · go_simp
    constructor
    · rfl
    · rfl
  have HB5 := below_alloc HB4 (.cells #[.string ⟨#[102, 97, 105, 108]⟩, .slice none 0 0, .int .i64 0, .string s1, .slice none 0 0, .int .i64 0] 56)
  have hbk := blk_new w4 (.cells #[.string ⟨#[102, 97, 105, 108]⟩, .slice none 0 0, .int .i64 0, .string s1, .slice none 0 0, .int .i64 0] 56 (0, 0))
  refine hK.out _ _ ((blk_cell (blk_below hbx.out HB5) 2).trans rfl) (fun hHeld => ?_)
  clear hK K
  refine norm_ (a' := ?_) ?_ ?_
  rotate_left
  · show Act.put _ (some 125) _ = _
    simp only [Act.put, List.setIfInBounds_toArray, List.set_cons_zero, List.set_cons_succ, i64_w, i32_w]
    rfl
  refine one_ (i := 6) (N := some 126) #[true, true, true, true, true, true, true, false] rfl rfl (by kernel_rfl) (by decide) (fun K hK => ?_)
  refine goes_ Tryd.func52 (by kernel_rfl) rfl #[.slice (some ⟨w4.heap.size, 0, none⟩) 2 2] (by rfl) rfl rfl (by simp only [List.map_toArray, List.map_cons, List.map_nil]; rfl) ?_
  (with_reducible refine (l_calls _ _ _ _).mono ?_)
  rintro e w6 ⟨rfl, hbq6⟩
  refine ⟨_, rfl, ?_⟩
  have HB6 := below_step HB5 hbq6
  have hNL : NL w6 W0.heap.size (some ⟨w4.heap.size, 0, none⟩) 2 := NL.two (blk_below hbk hbq6) HB4.size (NL.nil _ _) (Nat.le_refl _) (NL.nil _ _) (Nat.le_refl _)
  have hr1 := blk_below hrx.out HB6
  have j0 := (blk_cell hr1 0).trans rfl
  have j1 := (blk_cell hr1 1).trans rfl
  have j2 := (blk_cell hr1 2).trans rfl
  have z0 := blk_frozen hr1 0
  have z1 := blk_frozen hr1 1
  have z2 := blk_frozen hr1 2
  refine hK.out _ _ ((blk_cell (blk_below hbx.out HB6) 2).trans rfl) (fun hHeld => ?_)
  clear hK K
  refine norm_ (a' := ?_) ?_ ?_
  rotate_left
  · show Act.put _ (some 126) _ = _
    simp only [Act.put, List.setIfInBounds_toArray, List.set_cons_zero, List.set_cons_succ, i64_w, i32_w]
    rfl
  refine last_ (i := 7) (N := none) #[true, true, true, true, true, true, true, true] rfl rfl (by kernel_rfl) (by decide) (fun K hK => ?_)
  refine skip_ (w1 := ?_) (by rfl) rfl ?_ ?_
  rotate_left
  · go_simp
    rfl
  refine hK.out _ _ ?_
  clear hK K
  refine done_ (by kernel_rfl) ?_
  clear hHeld
  go_wp2
  refine bodyPost_ret (v := .agg #[.string ⟨#[]⟩, .slice (some ⟨w4.heap.size, 0, none⟩) 2 2, .int .i64 0]) (by simp [results, Tryd.results37, go_sem, *]) rfl ⟨_, (some ⟨w4.heap.size, 0, none⟩), _, 2, rfl, Nat.le_refl _, ?_, ?_⟩
  · exact ((((hNL).far (p := ⟨w.heap.size + 1, 0, none⟩) hl5.out _).far (p := ⟨w.heap.size + 1, 1, none⟩) hl5.out _).far (p := ⟨w.heap.size + 1, 2, none⟩) hl5.out _).mono (by have := hl5.out; omega)
  · exact (((HB0.out.trans (HB6.mono HB0.out.size)).setCell (p := ⟨w.heap.size + 1, 0, none⟩) (Nat.le_succ _) _).setCell (p := ⟨w.heap.size + 1, 1, none⟩) (Nat.le_succ _) _).setCell (p := ⟨w.heap.size + 1, 2, none⟩) (Nat.le_succ _) _
set_option maxHeartbeats 8000000 in
set_option maxRecDepth 100000 in
theorem exprNode_fn (f1 : ByteArray) (f2 : Int) (w : World) (hg : GG w) {A3 A4 A5 : Option Addr} {n3 c3 n4 c4 n5 c5 : Nat} (ns : List ByteArray) (hns : ns.length = n3) (hn3 : n3 ≤ 100000000000) (hC3 : Kd.string.C w A3 n3 ns) (l : List S33) (x : S33) (hx : XN x) (hi : l[0]? = some x) (hC4 : k33.C w A4 n4 l):
    Calls Tryd.prog 37 #[.agg #[.int .i64 6, .string f1, .int .i64 f2, .slice A3 n3 c3, .slice A4 n4 c4, .slice A5 n5 c5]] w (ND w) := by
  have E : ∀ W : World, ∀ o : Obj, (W.alloc o).heap.size = W.heap.size + 1 := fun W o => Array.size_push _
  obtain ⟨W0, hW0⟩ : ∃ W0, (w.alloc (.cells #[.int .i64 6, .string f1, .int .i64 f2, .slice A3 n3 c3, .slice A4 n4 c4, .slice A5 n5 c5] 33)).alloc (.cells #[.string ⟨#[]⟩, .slice none 0 0, .int .i64 0] 56) = W0 := ⟨_, rfl⟩
  have HB0 : Aside0 (Below w.heap.size w W0) := ⟨by rw [← hW0]; exact below_alloc (below_alloc (Below.refl _ _) _) _⟩
  have hbx : Aside0 (W0.heap[w.heap.size]? = some (.cells #[.int .i64 6, .string f1, .int .i64 f2, .slice A3 n3 c3, .slice A4 n4 c4, .slice A5 n5 c5] 33 (0, 0))) := ⟨by rw [← hW0]; exact (Below.heap_alloc _ _ _ (by rw [E]; omega)).trans (blk_new w _)⟩
  have hrx : Aside0 (W0.heap[w.heap.size + 1]? = some (.cells #[.string ⟨#[]⟩, .slice none 0 0, .int .i64 0] 56 (0, 0))) := ⟨by rw [← hW0, ← E w]; exact blk_new _ _⟩
  have hl1 : Aside0 (W0.heap.size = w.heap.size + 2) := ⟨by rw [← hW0, E, E]⟩
  have hg0 := Aside0.mk (GG.below hg HB0.out)
  have k0 := (blk_cell hbx.out 0).trans rfl
  have k1 := (blk_cell hbx.out 1).trans rfl
  have k2 := (blk_cell hbx.out 2).trans rfl
  have k3 := (blk_cell hbx.out 3).trans rfl
  have k4 := (blk_cell hbx.out 4).trans rfl
  have k5 := (blk_cell hbx.out 5).trans rfl
  have hl5 : Aside0 (w.heap.size + 1 < W0.heap.size) := ⟨by have := hl1.out; omega⟩
  have hp4 : 0 < n4 := by have h1 := (List.getElem?_eq_some_iff.1 hi).1; have h2 := hC4.1; omega
  obtain ⟨ad, B3, d3, B4, d4, B5, d5, rfl, he, g3, g4, g5, _, _, _⟩ := elem33 (Kd.C_below hC4 HB0.out) 0 hi
  rw [show ad.add (0 * 6) = ad by simp [Addr.add]] at he
  have he := Aside0.mk he
  have h3 := Aside0.mk g3
  have h4 := Aside0.mk g4
  have h5 := Aside0.mk g5
  clear g3 g4 g5 hC4
  have CW : ∀ w2, Below W0.heap.size W0 w2 → Calls Tryd.prog 53 #[.slice A3 n3 c3] w2 fun e w' => ∃ A1 c1, e = .returned (.slice A1 n3 c1) ∧ n3 ≤ c1 ∧ NL w' w2.heap.size A1 n3 ∧ Below w2.heap.size w2 w' := by
    intro w2 hb
    subst hns
    exact ws_calls ns w2 (by omega) (Kd.C_below (Kd.C_below hC3 HB0.out) hb)
  clear hC3
  go_enter Tryd.func37, Tryd.ntmps37
  go_wp2
  (try rw [hW0])
  clear hW0 k0 k1 k2 k3 k4 k5
  have HB_ : Below W0.heap.size W0 W0.drew := below_drew1 (Below.refl _ _)
  have hg9 := Aside0.mk (GG.below hg0.out HB_)
  refine start_ (n := 13) (S := fun w' => w'.cell? ⟨w.heap.size, 3, none⟩ = some (.slice A3 n3 c3) ∧ w'.cell? ⟨w.heap.size, 4, none⟩ = some (.slice (some ad) n4 c4) ∧ w'.cell? ad = some (.int .i64 x.f0) ∧ w'.cell? ⟨(ad).block, (ad).off + 1, none⟩ = some (.string x.f1) ∧ w'.cell? ⟨(ad).block, (ad).off + 2, none⟩ = some (.int .i64 x.f2) ∧ w'.cell? ⟨(ad).block, (ad).off + 3, none⟩ = some (.slice B3 x.f3.length d3) ∧ w'.cell? ⟨(ad).block, (ad).off + 4, none⟩ = some (.slice B4 x.f4.length d4) ∧ w'.cell? ⟨(ad).block, (ad).off + 5, none⟩ = some (.slice B5 x.f5.length d5)) (ds := [12]) #[false, false, false, false, false, false, false, false, false, false, false, false, false] (by kernel_rfl) rfl rfl ⟨(blk_cell (blk_below hbx.out HB_) 3).trans rfl, (blk_cell (blk_below hbx.out HB_) 4).trans rfl, (he.out.below HB_).1, (he.out.below HB_).2.1, (he.out.below HB_).2.2.1, (he.out.below HB_).2.2.2.1, (he.out.below HB_).2.2.2.2.1, (he.out.below HB_).2.2.2.2.2⟩ (fun hHeld => ?_)
  generalize W0.drew = W9 at *
  refine pure_ (i := 1) (N := some 27) (v := ?_) (a' := ?_) #[false, true, false, false, false, false, false, false, false, false, false, false, false] rfl rfl (by kernel_rfl) (fun _ _ _ h => h) (Or.inl ⟨by rfl, ?_⟩) ?_ ?_
  rotate_left
  · intro w'
    go_simp
    with_reducible rfl
  rotate_left
  · simp only [Act.put, List.setIfInBounds_toArray, List.set_cons_zero, List.set_cons_succ, i64_w, i32_w]
    rfl
  refine pure_ (i := 5) (N := some 31) (v := ?_) (a' := ?_) #[false, true, false, false, false, true, false, false, false, false, false, false, false] rfl rfl (by kernel_rfl) (fun _ _ _ h => h) (Or.inl ⟨by rfl, ?_⟩) ?_ ?_
  rotate_left
  · intro w'
    go_simp
    with_reducible rfl
  rotate_left
  · simp only [Act.put, List.setIfInBounds_toArray, List.set_cons_zero, List.set_cons_succ, i64_w, i32_w]
    rfl
  refine take_ (i := 2) (N := some 28) (v := ?_) (a' := ?_) #[false, true, true, false, false, true, false, false, false, false, false, false, false] rfl rfl (by kernel_rfl) (fun _ _ _ h => h) (Or.inl ⟨by rfl, ?_⟩) hHeld ?_ ?_
  rotate_left
  · rintro w' ⟨s0, s1, s2, s3, s4, s5, s6, s7⟩
    go_simp
    with_reducible rfl
  rotate_left
  · simp only [Act.put, List.setIfInBounds_toArray, List.set_cons_zero, List.set_cons_succ, i64_w, i32_w]
    rfl
  refine take_ (i := 6) (N := some 32) (v := ?_) (a' := ?_) #[false, true, true, false, false, true, true, false, false, false, false, false, false] rfl rfl (by kernel_rfl) (fun _ _ _ h => h) (Or.inl ⟨by rfl, ?_⟩) hHeld ?_ ?_
  rotate_left
  · rintro w' ⟨s0, s1, s2, s3, s4, s5, s6, s7⟩
    go_simp
    with_reducible rfl
  rotate_left
  · simp only [Act.put, List.setIfInBounds_toArray, List.set_cons_zero, List.set_cons_succ, i64_w, i32_w]
    rfl
  refine pure_ (i := 7) (N := some 33) (v := ?_) (a' := ?_) #[false, true, true, false, false, true, true, true, false, false, false, false, false] rfl rfl (by kernel_rfl) (fun _ _ _ h => h) (Or.inl ⟨by rfl, ?_⟩) ?_ ?_
  rotate_left
  · intro w'
    go_simp
    with_reducible rfl
  rotate_left
  · simp only [Act.put, List.setIfInBounds_toArray, List.set_cons_zero, List.set_cons_succ, i64_w, i32_w]
    rfl
  refine take_ (i := 8) (N := some 34) (v := ?_) (a' := ?_) #[false, true, true, false, false, true, true, true, true, false, false, false, false] rfl rfl (by kernel_rfl) (fun _ _ _ h => h) (Or.inl ⟨by rfl, ?_⟩) hHeld ?_ ?_
  rotate_left
  · rintro w' ⟨s0, s1, s2, s3, s4, s5, s6, s7⟩
    go_simp
    with_reducible rfl
  rotate_left
  · simp only [Act.put, List.setIfInBounds_toArray, List.set_cons_zero, List.set_cons_succ, i64_w, i32_w]
    rfl
  refine one_ (i := 0) (N := some 26) #[true, true, true, false, false, true, true, true, true, false, false, false, false] rfl rfl (by kernel_rfl) (by decide) (fun K hK => ?_)
  refine goes_ Tryd.func49 (by kernel_rfl) rfl #[.string ⟨#[102, 110]⟩] (by rfl) rfl rfl (by simp only [List.map_toArray, List.map_cons, List.map_nil]; rfl) ?_
  (with_reducible refine (w_calls _ W9).mono ?_)
  rintro e w2 ⟨rfl, hbq2⟩
  refine ⟨_, rfl, ?_⟩
  have HB2 := below_step HB_ hbq2
  refine hK.out _ _ ⟨(blk_cell (blk_below hbx.out HB2) 3).trans rfl, (blk_cell (blk_below hbx.out HB2) 4).trans rfl, (he.out.below HB2).1, (he.out.below HB2).2.1, (he.out.below HB2).2.2.1, (he.out.below HB2).2.2.2.1, (he.out.below HB2).2.2.2.2.1, (he.out.below HB2).2.2.2.2.2⟩ (fun hHeld => ?_)
  clear hK K
  refine norm_ (a' := ?_) ?_ ?_
  rotate_left
  · show Act.put _ (some 26) _ = _
    simp only [Act.put, List.setIfInBounds_toArray, List.set_cons_zero, List.set_cons_succ, i64_w, i32_w]
    rfl
  refine one_ (i := 3) (N := some 29) #[true, true, true, true, false, true, true, true, true, false, false, false, false] rfl rfl (by kernel_rfl) (by decide) (fun K hK => ?_)
  refine goes_ Tryd.func53 (by kernel_rfl) rfl #[.slice A3 n3 c3] (by rfl) rfl rfl (by simp only [List.map_toArray, List.map_cons, List.map_nil]; rfl) ?_
  (with_reducible refine (CW w2 HB2).mono ?_)
  rintro e w3 ⟨A1, c1, rfl, hc1, hn1, hbq3⟩
  refine ⟨_, rfl, ?_⟩
  have HB3 := below_step HB2 hbq3
  refine hK.out _ _ ⟨(blk_cell (blk_below hbx.out HB3) 3).trans rfl, (blk_cell (blk_below hbx.out HB3) 4).trans rfl, (he.out.below HB3).1, (he.out.below HB3).2.1, (he.out.below HB3).2.2.1, (he.out.below HB3).2.2.2.1, (he.out.below HB3).2.2.2.2.1, (he.out.below HB3).2.2.2.2.2⟩ (fun hHeld => ?_)
  clear hK K
  refine norm_ (a' := ?_) ?_ ?_
  rotate_left
  · show Act.put _ (some 29) _ = _
    simp only [Act.put, List.setIfInBounds_toArray, List.set_cons_zero, List.set_cons_succ, i64_w, i32_w]
    rfl
  refine one_ (i := 4) (N := some 30) #[true, true, true, true, true, true, true, true, true, false, false, false, false] rfl rfl (by kernel_rfl) (by decide) (fun K hK => ?_)
  refine goes_ Tryd.func52 (by kernel_rfl) rfl #[.slice A1 n3 c1] (by rfl) rfl rfl (by simp only [List.map_toArray, List.map_cons, List.map_nil]; rfl) ?_
  (with_reducible refine (l_calls _ _ _ _).mono ?_)
  rintro e w4 ⟨rfl, hbq4⟩
  refine ⟨_, rfl, ?_⟩
  have HB4 := below_step HB3 hbq4
  refine hK.out _ _ ⟨(blk_cell (blk_below hbx.out HB4) 3).trans rfl, (blk_cell (blk_below hbx.out HB4) 4).trans rfl, (he.out.below HB4).1, (he.out.below HB4).2.1, (he.out.below HB4).2.2.1, (he.out.below HB4).2.2.2.1, (he.out.below HB4).2.2.2.2.1, (he.out.below HB4).2.2.2.2.2⟩ (fun hHeld => ?_)
  clear hK K
  refine norm_ (a' := ?_) ?_ ?_
  rotate_left
  · show Act.put _ (some 30) _ = _
    simp only [Act.put, List.setIfInBounds_toArray, List.set_cons_zero, List.set_cons_succ, i64_w, i32_w]
    rfl
  refine one_ (i := 9) (N := some 35) #[true, true, true, true, true, true, true, true, true, true, false, false, false] rfl rfl (by kernel_rfl) (by decide) (fun K hK => ?_)
  refine goes_ Tryd.func37 (by kernel_rfl) rfl #[.agg #[.int .i64 x.f0, .string x.f1, .int .i64 x.f2, .slice B3 x.f3.length d3, .slice B4 x.f4.length d4, .slice B5 x.f5.length d5]] (by rfl) rfl rfl (by simp only [List.map_toArray, List.map_cons, List.map_nil]; rfl) ?_
  (with_reducible refine (hx.at w4 (GG.below hg0.out HB4) (Kd.C_below h3.out HB4) (Kd.C_below h4.out HB4) (Kd.C_below h5.out HB4)).mono ?_)
  rintro e w5 ⟨s5, A5', n5', c5', rfl, hc5, hn5, hbq5⟩
  refine ⟨_, rfl, ?_⟩
  have HB5 := below_step HB4 hbq5
  refine hK.out _ _ ⟨(blk_cell (blk_below hbx.out HB5) 3).trans rfl, (blk_cell (blk_below hbx.out HB5) 4).trans rfl, (he.out.below HB5).1, (he.out.below HB5).2.1, (he.out.below HB5).2.2.1, (he.out.below HB5).2.2.2.1, (he.out.below HB5).2.2.2.2.1, (he.out.below HB5).2.2.2.2.2⟩ (fun hHeld => ?_)
  clear hK K
  refine norm_ (a' := ?_) ?_ ?_
  rotate_left
  · show Act.put _ (some 35) _ = _
    simp only [Act.put, List.setIfInBounds_toArray, List.set_cons_zero, List.set_cons_succ, i64_w, i32_w]
    rfl
  refine one_ (i := 10) (N := some 36) #[true, true, true, true, true, true, true, true, true, true, true, false, false] rfl rfl (by kernel_rfl) (by decide) (fun K hK => ?_)
  refine value_ (w1 := ?_) (v := ?_) (by rfl) rfl ?_ ?_
  rotate_left 2
  · go_simp
    constructor
    · rfl
    · rfl
  have HB6 := below_alloc HB5 (.cells #[.string ⟨#[102, 110]⟩, .slice none 0 0, .int .i64 0, .string ⟨#[]⟩, .slice A1 n3 c1, .int .i64 0, .string s5, .slice A5' n5' c5', .int .i64 0] 56)
  have hbk := blk_new w5 (.cells #[.string ⟨#[102, 110]⟩, .slice none 0 0, .int .i64 0, .string ⟨#[]⟩, .slice A1 n3 c1, .int .i64 0, .string s5, .slice A5' n5' c5', .int .i64 0] 56 (0, 0))
  refine hK.out _ _ ⟨(blk_cell (blk_below hbx.out HB6) 3).trans rfl, (blk_cell (blk_below hbx.out HB6) 4).trans rfl, (he.out.below HB6).1, (he.out.below HB6).2.1, (he.out.below HB6).2.2.1, (he.out.below HB6).2.2.2.1, (he.out.below HB6).2.2.2.2.1, (he.out.below HB6).2.2.2.2.2⟩ (fun hHeld => ?_)
  clear hK K
  refine norm_ (a' := ?_) ?_ ?_
  rotate_left
  · show Act.put _ (some 36) _ = _
    simp only [Act.put, List.setIfInBounds_toArray, List.set_cons_zero, List.set_cons_succ, i64_w, i32_w]
    rfl
  refine one_ (i := 11) (N := some 37) #[true, true, true, true, true, true, true, true, true, true, true, true, false] rfl rfl (by kernel_rfl) (by decide) (fun K hK => ?_)
  refine goes_ Tryd.func52 (by kernel_rfl) rfl #[.slice (some ⟨w5.heap.size, 0, none⟩) 3 3] (by rfl) rfl rfl (by simp only [List.map_toArray, List.map_cons, List.map_nil]; rfl) ?_
  (with_reducible refine (l_calls _ _ _ _).mono ?_)
  rintro e w7 ⟨rfl, hbq7⟩
  refine ⟨_, rfl, ?_⟩
  have HB7 := below_step HB6 hbq7
  have hNL : NL w7 W0.heap.size (some ⟨w5.heap.size, 0, none⟩) 3 := NL.three (blk_below hbk hbq7) HB5.size (NL.nil _ _) (Nat.le_refl _) ((((((hn1.mono HB2.size).below hbq4).below hbq5).below (below_alloc (Below.refl _ _) _)).below hbq7)) hc1 (((hn5.mono HB4.size).below (below_alloc (Below.refl _ _) _)).below hbq7) hc5
  have hr1 := blk_below hrx.out HB7
  have j0 := (blk_cell hr1 0).trans rfl
  have j1 := (blk_cell hr1 1).trans rfl
  have j2 := (blk_cell hr1 2).trans rfl
  have z0 := blk_frozen hr1 0
  have z1 := blk_frozen hr1 1
  have z2 := blk_frozen hr1 2
  refine hK.out _ _ ⟨(blk_cell (blk_below hbx.out HB7) 3).trans rfl, (blk_cell (blk_below hbx.out HB7) 4).trans rfl, (he.out.below HB7).1, (he.out.below HB7).2.1, (he.out.below HB7).2.2.1, (he.out.below HB7).2.2.2.1, (he.out.below HB7).2.2.2.2.1, (he.out.below HB7).2.2.2.2.2⟩ (fun hHeld => ?_)
  clear hK K
  refine norm_ (a' := ?_) ?_ ?_
  rotate_left
  · show Act.put _ (some 37) _ = _
    simp only [Act.put, List.setIfInBounds_toArray, List.set_cons_zero, List.set_cons_succ, i64_w, i32_w]
    rfl
  refine last_ (i := 12) (N := none) #[true, true, true, true, true, true, true, true, true, true, true, true, true] rfl rfl (by kernel_rfl) (by decide) (fun K hK => ?_)
  refine skip_ (w1 := ?_) (by rfl) rfl ?_ ?_
  rotate_left
  · go_simp
    rfl
  refine hK.out _ _ ?_
  clear hK K
  refine done_ (by kernel_rfl) ?_
  clear hHeld
  go_wp2
  refine bodyPost_ret (v := .agg #[.string ⟨#[]⟩, .slice (some ⟨w5.heap.size, 0, none⟩) 3 3, .int .i64 0]) (by simp [results, Tryd.results37, go_sem, *]) rfl ⟨_, (some ⟨w5.heap.size, 0, none⟩), _, 3, rfl, Nat.le_refl _, ?_, ?_⟩
  · exact ((((hNL).far (p := ⟨w.heap.size + 1, 0, none⟩) hl5.out _).far (p := ⟨w.heap.size + 1, 1, none⟩) hl5.out _).far (p := ⟨w.heap.size + 1, 2, none⟩) hl5.out _).mono (by have := hl5.out; omega)
  · exact (((HB0.out.trans (HB7.mono HB0.out.size)).setCell (p := ⟨w.heap.size + 1, 0, none⟩) (Nat.le_succ _) _).setCell (p := ⟨w.heap.size + 1, 1, none⟩) (Nat.le_succ _) _).setCell (p := ⟨w.heap.size + 1, 2, none⟩) (Nat.le_succ _) _
end Go.Proofs.YtmoeekidmkhkoaaDoor.FreeA

