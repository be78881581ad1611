/- Texts of the walks put together: DepAA, DepAB, DepAC, DepAD. Conditions: as each states. -/
import Derived.Test.YtlgpoigbadajnaaDoorODX
namespace Go.Proofs.YtlgpoigbadajnaaDoor.DepA.Z
open Go.RowKit Go.Proofs.YtlgpoigbadajnaaDoorW.PrintWords Go.Proofs.YtlgpoigbadajnaaDoorW.PrintLast Go.Proofs.YtlgpoigbadajnaaDoorW.PrintMore Go.Proofs.YtlgpoigbadajnaaDoor.PDepA
set_option linter.unusedVariables false
set_option linter.unusedSimpArgs false
def ND (B : Nat) (w : World) (r : Ending) (w' : World) : Prop := ∃ s A n c z, r = .returned (.agg #[.string s, .slice A n c, .int .i64 0]) ∧ s.size + 3 + z ≤ B ∧ n ≤ c ∧ NL w' w.heap.size A n z ∧ Below w.heap.size w w'
theorem ND.mono {B B' : Nat} {w w' : World} {r : Ending} (h : ND B w r w') (hb : B ≤ B') : ND B' w r w' := by
 obtain ⟨s, A, n, c, z, h1, h2, h3⟩ := h
 exact ⟨s, A, n, c, z, h1, Nat.le_trans h2 hb, h3⟩
mutual
/-- A bound of an expression's node's size. -/
def eB : S29 → Nat
 | ⟨_, s, _, ns, l, la⟩ => s.size + nmz ns + 100 + eBL l + aBL la
def eBL : List S29 → Nat
 | [] => 0
 | x :: l => eB x + 10 + eBL l
def aB : S88 → Nat
 | ⟨_, s, _, ns, e⟩ => s.size + nmz ns + 80 + eB e
def aBL : List S88 → Nat
 | [] => 0
 | x :: l => aB x + 10 + aBL l
end
theorem aB_ge (a : S88) : aB a = a.f1.size + nmz a.f3 + 80 + eB a.f4 := by
 obtain ⟨_, s, _, ns, e⟩ := a
 simp only [aB]
theorem eBL_take : ∀ {l : List S29} {i : Nat} {x : S29}, l[i]? = some x → eBL (l.take (i + 1)) = eBL (l.take i) + (eB x + 10)
 | [], i, x, h => by simp at h
 | a :: l, 0, x, h => by
  obtain rfl : a = x := by simpa using h
  simp [eBL]
 | a :: l, i + 1, x, h => by
  have := eBL_take (l := l) (i := i) (x := x) (by simpa using h)
  simp only [List.take_succ_cons, eBL, this]; omega
theorem eBL_le : ∀ (l : List S29) (i : Nat), eBL (l.take i) ≤ eBL l
 | [], i => by simp [eBL]
 | a :: l, 0 => by simp [eBL]
 | a :: l, i + 1 => by have := eBL_le l i; simp only [List.take_succ_cons, eBL]; omega
theorem aBL_take : ∀ {l : List S88} {i : Nat} {x : S88}, l[i]? = some x → aBL (l.take (i + 1)) = aBL (l.take i) + (aB x + 10)
 | [], i, x, h => by simp at h
 | a :: l, 0, x, h => by
  obtain rfl : a = x := by simpa using h
  simp [aBL]
 | a :: l, i + 1, x, h => by
  have := aBL_take (l := l) (i := i) (x := x) (by simpa using h)
  simp only [List.take_succ_cons, aBL, this]; omega
theorem aBL_le : ∀ (l : List S88) (i : Nat), aBL (l.take i) ≤ aBL l
 | [], i => by simp [aBL]
 | a :: l, 0 => by simp [aBL]
 | a :: l, i + 1 => by have := aBL_le l i; simp only [List.take_succ_cons, aBL]; omega
theorem nmz_take : ∀ {l : List ByteArray} {i : Nat} {x : ByteArray}, l[i]? = some x → nmz (l.take (i + 1)) = nmz (l.take i) + (x.size + 3)
 | [], i, x, h => by simp at h
 | a :: l, 0, x, h => by
  obtain rfl : a = x := by simpa using h
  simp [nmz]
 | a :: l, i + 1, x, h => by
  have := nmz_take (l := l) (i := i) (x := x) (by simpa using h)
  simp only [List.take_succ_cons, nmz, this]; omega
theorem nmz_le : ∀ (l : List ByteArray) (i : Nat), nmz (l.take i) ≤ nmz l
 | [], i => by simp [nmz]
 | a :: l, 0 => by simp [nmz]
 | a :: l, i + 1 => by have := nmz_le l i; simp only [List.take_succ_cons, nmz]; omega
def XN (e : S29) : Prop := ∀ (w : World), GG w → ∀ {A3 A4 A5 : Option Addr} {c3 c4 c5 : Nat}, Kd.C Kd.string w A3 e.f3.length e.f3 → Kd.C k29 w A4 e.f4.length e.f4 → Kd.C k88 w A5 e.f5.length e.f5 →
 Calls Tryd.prog 86 #[.agg #[.int .i64 e.f0, .string e.f1, .int .i64 e.f2, .slice A3 e.f3.length c3, .slice A4 e.f4.length c4, .slice A5 e.f5.length c5]] w (ND (eB e) w)
theorem XN.at {e : S29} (h : XN e) (w : World) (hg : GG w) {A3 A4 A5 : Option Addr} {c3 c4 c5 : Nat} (h3 : Kd.C Kd.string w A3 e.f3.length e.f3) (h4 : Kd.C k29 w A4 e.f4.length e.f4) (h5 : Kd.C k88 w A5 e.f5.length e.f5) :
 Calls Tryd.prog 86 #[.agg #[.int .i64 e.f0, .string e.f1, .int .i64 e.f2, .slice A3 e.f3.length c3, .slice A4 e.f4.length c4, .slice A5 e.f5.length c5]] w (ND (eB e) w) := h w hg h3 h4 h5
theorem wrapU (a : Int) : 0 ≤ IntKind.u64.wrap a ∧ IntKind.u64.wrap a < 18446744073709551616 := by rw [IntKind.wrap_u64]; omega
def EC (W : World) (p : Addr) (x : S29) (B3 B4 B5 : Option Addr) (d3 d4 d5 : Nat) : Prop := W.cell? p = some (.int .i64 x.f0) ∧ W.cell? ⟨p.block, p.off + 1, none⟩ = some (.string x.f1) ∧ W.cell? ⟨p.block, p.off + 2, none⟩ = some (.int .i64 x.f2) ∧ W.cell? ⟨p.block, p.off + 3, none⟩ = some (.slice B3 x.f3.length d3) ∧ W.cell? ⟨p.block, p.off + 4, none⟩ = some (.slice B4 x.f4.length d4) ∧ W.cell? ⟨p.block, p.off + 5, none⟩ = some (.slice B5 x.f5.length d5)
theorem elem33 {W : World} {A : Option Addr} {n : Nat} {l : List S29} (hC : k29.C W A n l) (i : Nat) {x : S29} (hx : l[i]? = some x) : ∃ ad B3 d3 B4 d4 B5 d5, A = some ad ∧ EC W (ad.add (i * 6)) x B3 B4 B5 d3 d4 d5 ∧ Kd.string.C W B3 x.f3.length x.f3 ∧ k29.C W B4 x.f4.length x.f4 ∧ k88.C W B5 x.f5.length x.f5 ∧ x.f3.length ≤ d3 ∧ x.f4.length ≤ d4 ∧ x.f5.length ≤ d5 := by
 have hi := (List.getElem?_eq_some_iff.1 hx).1
 obtain ⟨ad, B3, d3, B4, d4, B5, d5, e, c0, c1, c2, c3, c4, c5, l3, g3, l4, g4, l5, g5⟩ := at_T29 hC (i : Int) (by omega) (by have := hC.1; omega)
 have hr : ZI l (i : Int) = x := by
  unfold ZI
  rw [Int.toNat_natCast, List.getD_eq_getElem?_getD, hx]
  rfl
 rw [hr] at c0 c1 c2 c3 c4 c5 l3 g3 l4 g4 l5 g5
 rw [Int.toNat_natCast] at c0 c1 c2 c3 c4 c5
 exact ⟨ad, B3, d3, B4, d4, B5, d5, e, ⟨c0, c1, c2, c3, c4, c5⟩, g3, g4, g5, l3, l4, l5⟩
theorem EC.below {W W1 : World} {p : Addr} {x : S29} {B3 B4 B5 : Option Addr} {d3 d4 d5 : Nat} (h : EC W p x B3 B4 B5 d3 d4 d5) (hb : Below W.heap.size W W1) : EC W1 p x B3 B4 B5 d3 d4 d5 :=
 ⟨(hb.cell (World.block_lt_of_cell? _ _ h.1)).trans h.1, (hb.cell (World.block_lt_of_cell? _ _ h.2.1)).trans h.2.1, (hb.cell (World.block_lt_of_cell? _ _ h.2.2.1)).trans h.2.2.1, (hb.cell (World.block_lt_of_cell? _ _ h.2.2.2.1)).trans h.2.2.2.1, (hb.cell (World.block_lt_of_cell? _ _ h.2.2.2.2.1)).trans h.2.2.2.2.1, (hb.cell (World.block_lt_of_cell? _ _ h.2.2.2.2.2)).trans h.2.2.2.2.2⟩
set_option maxHeartbeats 8000000 in
set_option maxRecDepth 100000 in
theorem exprNode_var (f1 : ByteArray) (f2 : Int) (w : World) (hg : GG w) {A3 A4 A5 : Option Addr} {n3 c3 n4 c4 n5 c5 : Nat} :
  Calls Tryd.prog 86 #[.agg #[.int .i64 1, .string f1, .int .i64 f2, .slice A3 n3 c3, .slice A4 n4 c4, .slice A5 n5 c5]] w (ND (f1.size + 100) w) := by
 have E : ∀ W : World, ∀ o : Obj, (W.alloc o).heap.size = W.heap.size + 1 := fun W o => Array.size_push _
 obtain ⟨W0, hW0⟩ : ∃ W0, (w.alloc (.cells #[.int .i64 1, .string f1, .int .i64 f2, .slice A3 n3 c3, .slice A4 n4 c4, .slice A5 n5 c5] 29)).alloc (.cells #[.string ⟨#[]⟩, .slice none 0 0, .int .i64 0] 109) = W0 := ⟨_, rfl⟩
 have HB0 : Qb (Below w.heap.size w W0) := ⟨by rw [← hW0]; exact Qd (Qd (Below.refl _ _) _) _⟩
 have hbx : Qb (W0.heap[w.heap.size]? = some (.cells #[.int .i64 1, .string f1, .int .i64 f2, .slice A3 n3 c3, .slice A4 n4 c4, .slice A5 n5 c5] 29 (0, 0))) := ⟨by rw [← hW0]; exact (Below.heap_alloc _ _ _ (by rw [E]; omega)).trans (Qv w _)⟩
 have hrx : Qb (W0.heap[w.heap.size + 1]? = some (.cells #[.string ⟨#[]⟩, .slice none 0 0, .int .i64 0] 109 (0, 0))) := ⟨by rw [← hW0, ← E w]; exact Qv _ _⟩
 have hl1 : Qb (W0.heap.size = w.heap.size + 2) := ⟨by rw [← hW0, E, E]⟩
 have hg0 := Qb.mk (GG.below hg HB0.out)
 have k0 := (Qa hbx.out 0).trans rfl
 have k1 := (Qa hbx.out 1).trans rfl
 have k2 := (Qa hbx.out 2).trans rfl
 have k3 := (Qa hbx.out 3).trans rfl
 have k4 := (Qa hbx.out 4).trans rfl
 have k5 := (Qa hbx.out 5).trans rfl
 go_enter Tryd.func86, Tryd.ntmps86
 go_wp2_with (first | (go_at_call 82; (try rw [hW0]); go_loud (with_reducible refine (QV f1 W0).mono ?_); rintro r w2 ⟨rfl, hb2⟩; have HB2 := Qb.mk hb2; have hr1 := Qb.mk (Qc hrx.out hb2); have j0 := (Qa hr1.out 0).trans rfl; have j1 := (Qa hr1.out 1).trans rfl; have j2 := (Qa hr1.out 2).trans rfl; have z0 := Qg hr1.out 0; have z1 := Qg hr1.out 1; have z2 := Qg hr1.out 2; clear hb2 k0 k1 k2 k3 k4 k5))
 refine bodyPost_ret (v := .agg #[.string f1, .slice none 0 0, .int .i64 0]) (by simp [results, Tryd.results86, go_sem, *]) rfl ⟨f1, none, 0, 0, 0, rfl, by omega, Nat.le_refl _, NL.nil _ _, ?_⟩
 exact (((HB0.out.trans (HB2.out.mono HB0.out.size)).setCell (p := ⟨w.heap.size + 1, 0, none⟩) (Nat.le_succ _) _).setCell (p := ⟨w.heap.size + 1, 1, none⟩) (Nat.le_succ _) _).setCell (p := ⟨w.heap.size + 1, 2, none⟩) (Nat.le_succ _) _
set_option maxHeartbeats 8000000 in
set_option maxRecDepth 100000 in
theorem exprNode_con (f1 : ByteArray) (f2 : Int) (w : World) (hg : GG w) {A3 A4 A5 : Option Addr} {n3 c3 n4 c4 n5 c5 : Nat} :
  Calls Tryd.prog 86 #[.agg #[.int .i64 4, .string f1, .int .i64 f2, .slice A3 n3 c3, .slice A4 n4 c4, .slice A5 n5 c5]] w (ND (f1.size + 100) w) := by
 have E : ∀ W : World, ∀ o : Obj, (W.alloc o).heap.size = W.heap.size + 1 := fun W o => Array.size_push _
 obtain ⟨W0, hW0⟩ : ∃ W0, (w.alloc (.cells #[.int .i64 4, .string f1, .int .i64 f2, .slice A3 n3 c3, .slice A4 n4 c4, .slice A5 n5 c5] 29)).alloc (.cells #[.string ⟨#[]⟩, .slice none 0 0, .int .i64 0] 109) = W0 := ⟨_, rfl⟩
 have HB0 : Qb (Below w.heap.size w W0) := ⟨by rw [← hW0]; exact Qd (Qd (Below.refl _ _) _) _⟩
 have hbx : Qb (W0.heap[w.heap.size]? = some (.cells #[.int .i64 4, .string f1, .int .i64 f2, .slice A3 n3 c3, .slice A4 n4 c4, .slice A5 n5 c5] 29 (0, 0))) := ⟨by rw [← hW0]; exact (Below.heap_alloc _ _ _ (by rw [E]; omega)).trans (Qv w _)⟩
 have hrx : Qb (W0.heap[w.heap.size + 1]? = some (.cells #[.string ⟨#[]⟩, .slice none 0 0, .int .i64 0] 109 (0, 0))) := ⟨by rw [← hW0, ← E w]; exact Qv _ _⟩
 have hl1 : Qb (W0.heap.size = w.heap.size + 2) := ⟨by rw [← hW0, E, E]⟩
 have hg0 := Qb.mk (GG.below hg HB0.out)
 have k0 := (Qa hbx.out 0).trans rfl
 have k1 := (Qa hbx.out 1).trans rfl
 have k2 := (Qa hbx.out 2).trans rfl
 have k3 := (Qa hbx.out 3).trans rfl
 have k4 := (Qa hbx.out 4).trans rfl
 have k5 := (Qa hbx.out 5).trans rfl
 go_enter Tryd.func86, Tryd.ntmps86
 go_wp2_with (first | (go_at_call 82; (try rw [hW0]); go_loud (with_reducible refine (QV f1 W0).mono ?_); rintro r w2 ⟨rfl, hb2⟩; have HB2 := Qb.mk hb2; have hr1 := Qb.mk (Qc hrx.out hb2); have j0 := (Qa hr1.out 0).trans rfl; have j1 := (Qa hr1.out 1).trans rfl; have j2 := (Qa hr1.out 2).trans rfl; have z0 := Qg hr1.out 0; have z1 := Qg hr1.out 1; have z2 := Qg hr1.out 2; clear hb2 k0 k1 k2 k3 k4 k5))
 refine bodyPost_ret (v := .agg #[.string f1, .slice none 0 0, .int .i64 0]) (by simp [results, Tryd.results86, go_sem, *]) rfl ⟨f1, none, 0, 0, 0, rfl, by omega, Nat.le_refl _, NL.nil _ _, ?_⟩
 exact (((HB0.out.trans (HB2.out.mono HB0.out.size)).setCell (p := ⟨w.heap.size + 1, 0, none⟩) (Nat.le_succ _) _).setCell (p := ⟨w.heap.size + 1, 1, none⟩) (Nat.le_succ _) _).setCell (p := ⟨w.heap.size + 1, 2, none⟩) (Nat.le_succ _) _
set_option maxHeartbeats 8000000 in
set_option maxRecDepth 100000 in
theorem exprNode_int (f1 : ByteArray) (f2 : Int) (w : World) (hg : GG w) {A3 A4 A5 : Option Addr} {n3 c3 n4 c4 n5 c5 : Nat} (h0 : -9223372036854775808 ≤ f2) (h1 : f2 ≤ 9223372036854775807) :
  Calls Tryd.prog 86 #[.agg #[.int .i64 2, .string f1, .int .i64 f2, .slice A3 n3 c3, .slice A4 n4 c4, .slice A5 n5 c5]] w (ND (100) w) := by
 have E : ∀ W : World, ∀ o : Obj, (W.alloc o).heap.size = W.heap.size + 1 := fun W o => Array.size_push _
 obtain ⟨W0, hW0⟩ : ∃ W0, (w.alloc (.cells #[.int .i64 2, .string f1, .int .i64 f2, .slice A3 n3 c3, .slice A4 n4 c4, .slice A5 n5 c5] 29)).alloc (.cells #[.string ⟨#[]⟩, .slice none 0 0, .int .i64 0] 109) = W0 := ⟨_, rfl⟩
 have HB0 : Qb (Below w.heap.size w W0) := ⟨by rw [← hW0]; exact Qd (Qd (Below.refl _ _) _) _⟩
 have hbx : Qb (W0.heap[w.heap.size]? = some (.cells #[.int .i64 2, .string f1, .int .i64 f2, .slice A3 n3 c3, .slice A4 n4 c4, .slice A5 n5 c5] 29 (0, 0))) := ⟨by rw [← hW0]; exact (Below.heap_alloc _ _ _ (by rw [E]; omega)).trans (Qv w _)⟩
 have hrx : Qb (W0.heap[w.heap.size + 1]? = some (.cells #[.string ⟨#[]⟩, .slice none 0 0, .int .i64 0] 109 (0, 0))) := ⟨by rw [← hW0, ← E w]; exact Qv _ _⟩
 have hl1 : Qb (W0.heap.size = w.heap.size + 2) := ⟨by rw [← hW0, E, E]⟩
 have hg0 := Qb.mk (GG.below hg HB0.out)
 have k0 := (Qa hbx.out 0).trans rfl
 have k1 := (Qa hbx.out 1).trans rfl
 have k2 := (Qa hbx.out 2).trans rfl
 have k3 := (Qa hbx.out 3).trans rfl
 have k4 := (Qa hbx.out 4).trans rfl
 have k5 := (Qa hbx.out 5).trans rfl
 have TN := numText_calls f2 h0 h1 W0 hg0.out
 go_enter Tryd.func86, Tryd.ntmps86
 go_wp2_with (first | (go_at_call 95; (try rw [hW0]); go_loud (with_reducible refine TN.mono ?_); rintro r w1 ⟨s1, hz1, rfl, hb1⟩; have hz1 := Qb.mk hz1; have HB1 := Qb.mk hb1; clear TN hb1) | (go_at_call 82; (try rw [hW0]); go_loud (with_reducible refine (QV s1 w1).mono ?_); rintro r w2 ⟨rfl, hb2⟩; have HB2 := Qb.mk (Qe HB1.out hb2); have hr1 := Qb.mk (Qc hrx.out HB2.out); have j0 := (Qa hr1.out 0).trans rfl; have j1 := (Qa hr1.out 1).trans rfl; have j2 := (Qa hr1.out 2).trans rfl; have z0 := Qg hr1.out 0; have z1 := Qg hr1.out 1; have z2 := Qg hr1.out 2; clear hb2 k0 k1 k2 k3 k4 k5))
 refine bodyPost_ret (v := .agg #[.string s1, .slice none 0 0, .int .i64 0]) (by simp [results, Tryd.results86, go_sem, *]) rfl ⟨s1, none, 0, 0, 0, rfl, by have := hz1.out; omega, Nat.le_refl _, NL.nil _ _, ?_⟩
 exact (((HB0.out.trans (HB2.out.mono HB0.out.size)).setCell (p := ⟨w.heap.size + 1, 0, none⟩) (Nat.le_succ _) _).setCell (p := ⟨w.heap.size + 1, 1, none⟩) (Nat.le_succ _) _).setCell (p := ⟨w.heap.size + 1, 2, none⟩) (Nat.le_succ _) _
set_option maxHeartbeats 8000000 in
set_option maxRecDepth 100000 in
theorem exprNode_flo (f1 : ByteArray) (f2 : Int) (w : World) (hg : GG w) {A3 A4 A5 : Option Addr} {n3 c3 n4 c4 n5 c5 : Nat} :
  Calls Tryd.prog 86 #[.agg #[.int .i64 3, .string f1, .int .i64 f2, .slice A3 n3 c3, .slice A4 n4 c4, .slice A5 n5 c5]] w (ND (100) w) := by
 have E : ∀ W : World, ∀ o : Obj, (W.alloc o).heap.size = W.heap.size + 1 := fun W o => Array.size_push _
 obtain ⟨W0, hW0⟩ : ∃ W0, (w.alloc (.cells #[.int .i64 3, .string f1, .int .i64 f2, .slice A3 n3 c3, .slice A4 n4 c4, .slice A5 n5 c5] 29)).alloc (.cells #[.string ⟨#[]⟩, .slice none 0 0, .int .i64 0] 109) = W0 := ⟨_, rfl⟩
 have HB0 : Qb (Below w.heap.size w W0) := ⟨by rw [← hW0]; exact Qd (Qd (Below.refl _ _) _) _⟩
 have hbx : Qb (W0.heap[w.heap.size]? = some (.cells #[.int .i64 3, .string f1, .int .i64 f2, .slice A3 n3 c3, .slice A4 n4 c4, .slice A5 n5 c5] 29 (0, 0))) := ⟨by rw [← hW0]; exact (Below.heap_alloc _ _ _ (by rw [E]; omega)).trans (Qv w _)⟩
 have hrx : Qb (W0.heap[w.heap.size + 1]? = some (.cells #[.string ⟨#[]⟩, .slice none 0 0, .int .i64 0] 109 (0, 0))) := ⟨by rw [← hW0, ← E w]; exact Qv _ _⟩
 have hl1 : Qb (W0.heap.size = w.heap.size + 2) := ⟨by rw [← hW0, E, E]⟩
 have hg0 := Qb.mk (GG.below hg HB0.out)
 have k0 := (Qa hbx.out 0).trans rfl
 have k1 := (Qa hbx.out 1).trans rfl
 have k2 := (Qa hbx.out 2).trans rfl
 have k3 := (Qa hbx.out 3).trans rfl
 have k4 := (Qa hbx.out 4).trans rfl
 have k5 := (Qa hbx.out 5).trans rfl
 have TN := floText_calls (IntKind.u64.wrap f2) (wrapU f2).1 (wrapU f2).2 W0 hg0.out
 go_enter Tryd.func86, Tryd.ntmps86
 go_wp2_with (first | (go_at_call 96; (try rw [hW0]); go_loud (with_reducible refine TN.mono ?_); rintro r w1 ⟨s1, hz1, rfl, hb1⟩; have hz1 := Qb.mk hz1; have HB1 := Qb.mk hb1; clear TN hb1) | (go_at_call 82; (try rw [hW0]); go_loud (with_reducible refine (QV s1 w1).mono ?_); rintro r w2 ⟨rfl, hb2⟩; have HB2 := Qb.mk (Qe HB1.out hb2); have hr1 := Qb.mk (Qc hrx.out HB2.out); have j0 := (Qa hr1.out 0).trans rfl; have j1 := (Qa hr1.out 1).trans rfl; have j2 := (Qa hr1.out 2).trans rfl; have z0 := Qg hr1.out 0; have z1 := Qg hr1.out 1; have z2 := Qg hr1.out 2; clear hb2 k0 k1 k2 k3 k4 k5))
 refine bodyPost_ret (v := .agg #[.string s1, .slice none 0 0, .int .i64 0]) (by simp [results, Tryd.results86, go_sem, *]) rfl ⟨s1, none, 0, 0, 0, rfl, by have := hz1.out; omega, Nat.le_refl _, NL.nil _ _, ?_⟩
 exact (((HB0.out.trans (HB2.out.mono HB0.out.size)).setCell (p := ⟨w.heap.size + 1, 0, none⟩) (Nat.le_succ _) _).setCell (p := ⟨w.heap.size + 1, 1, none⟩) (Nat.le_succ _) _).setCell (p := ⟨w.heap.size + 1, 2, none⟩) (Nat.le_succ _) _
set_option maxHeartbeats 8000000 in
set_option maxRecDepth 100000 in
theorem exprNode_fail (f1 : ByteArray) (f2 : Int) (w : World) (hg : GG w) {A3 A4 A5 : Option Addr} {n3 c3 n4 c4 n5 c5 : Nat} (h0 : -9223372036854775808 ≤ f2) (h1 : f2 ≤ 9223372036854775807) :
  Calls Tryd.prog 86 #[.agg #[.int .i64 10, .string f1, .int .i64 f2, .slice A3 n3 c3, .slice A4 n4 c4, .slice A5 n5 c5]] w (ND (100) w) := by
 have E : ∀ W : World, ∀ o : Obj, (W.alloc o).heap.size = W.heap.size + 1 := fun W o => Array.size_push _
 obtain ⟨W0, hW0⟩ : ∃ W0, (w.alloc (.cells #[.int .i64 10, .string f1, .int .i64 f2, .slice A3 n3 c3, .slice A4 n4 c4, .slice A5 n5 c5] 29)).alloc (.cells #[.string ⟨#[]⟩, .slice none 0 0, .int .i64 0] 109) = W0 := ⟨_, rfl⟩
 have HB0 : Qb (Below w.heap.size w W0) := ⟨by rw [← hW0]; exact Qd (Qd (Below.refl _ _) _) _⟩
 have hbx : Qb (W0.heap[w.heap.size]? = some (.cells #[.int .i64 10, .string f1, .int .i64 f2, .slice A3 n3 c3, .slice A4 n4 c4, .slice A5 n5 c5] 29 (0, 0))) := ⟨by rw [← hW0]; exact (Below.heap_alloc _ _ _ (by rw [E]; omega)).trans (Qv w _)⟩
 have hrx : Qb (W0.heap[w.heap.size + 1]? = some (.cells #[.string ⟨#[]⟩, .slice none 0 0, .int .i64 0] 109 (0, 0))) := ⟨by rw [← hW0, ← E w]; exact Qv _ _⟩
 have hl1 : Qb (W0.heap.size = w.heap.size + 2) := ⟨by rw [← hW0, E, E]⟩
 have hg0 := Qb.mk (GG.below hg HB0.out)
 have k0 := (Qa hbx.out 0).trans rfl
 have k1 := (Qa hbx.out 1).trans rfl
 have k2 := (Qa hbx.out 2).trans rfl
 have k3 := (Qa hbx.out 3).trans rfl
 have k4 := (Qa hbx.out 4).trans rfl
 have k5 := (Qa hbx.out 5).trans rfl
 have hl5 : Qb (w.heap.size + 1 < W0.heap.size) := ⟨by have := hl1.out; omega⟩
 go_enter Tryd.func86, Tryd.ntmps86
 go_wp2
 (try rw [hW0])
 clear hW0 k0 k1 k2 k3 k4 k5
 have HB_ : Below W0.heap.size W0 W0.drew := Qi (Below.refl _ _)
 have hg9 := Qb.mk (GG.below hg0.out HB_)
 refine QZ (n := 8) (S := fun w' => w'.cell? ⟨w.heap.size, 2, none⟩ = some (.int .i64 f2)) (ds := [7]) (bm 8 0) (by kernel_rfl) rfl rfl ((Qa (Qc hbx.out HB_) 2).trans rfl) (fun hHeld => ?_)
 generalize W0.drew = W9 at *
 refine Q4 (i := 1) (N := some 121) (v := ?_) (a' := ?_) (bm 8 2) rfl rfl (by kernel_rfl) (fun _ _ _ h => h) (Or.inl ⟨by rfl, ?_⟩) ?_ ?_
 rotate_left
 ·intro w'
  go_simp
  with_reducible rfl
 rotate_left
 ·simp only [Act.put, sA, sB, sC, Qk, Ql]
  rfl
 refine QE (i := 2) (N := some 122) (v := ?_) (a' := ?_) (bm 8 6) rfl rfl (by kernel_rfl) (fun _ _ _ h => h) (Or.inl ⟨by rfl, ?_⟩) hHeld ?_ ?_
 rotate_left
 ·intro w' s0
  go_simp
  with_reducible rfl
 rotate_left
 ·simp only [Act.put, sA, sB, sC, Qk, Ql]
  rfl
 refine QQ (i := 0) (N := some 120) (bm 8 7) rfl rfl (by kernel_rfl) (by decide) (fun K hK => ?_)
 refine QI Tryd.func82 (by kernel_rfl) rfl #[.string ⟨#[102, 97, 105, 108]⟩] (by rfl) rfl rfl (by simp only [List.map_toArray, List.map_cons, List.map_nil]; rfl) ?_
 (with_reducible refine (QV _ W9).mono ?_)
 rintro e w2 ⟨rfl, hbq2⟩
 refine ⟨_, rfl, ?_⟩
 have HB2 := Qe HB_ hbq2
 refine hK.out _ _ ((Qa (Qc hbx.out HB2) 2).trans rfl) (fun hHeld => ?_)
 clear hK K
 refine Qq (a' := ?_) ?_ ?_
 rotate_left
 ·show Act.put _ (some 120) _ = _
  simp only [Act.put, sA, sB, sC, Qk, Ql]
  rfl
 refine QQ (i := 3) (N := some 123) (bm 8 15) rfl rfl (by kernel_rfl) (by decide) (fun K hK => ?_)
 refine QI Tryd.func95 (by kernel_rfl) rfl #[.int .i64 f2] (by rfl) rfl rfl (by simp only [List.map_toArray, List.map_cons, List.map_nil]; rfl) ?_
 (with_reducible refine (numText_calls f2 h0 h1 w2 (GG.below hg0.out HB2)).mono ?_)
 rintro e w3 ⟨s1, hz1, rfl, hbq3⟩
 refine ⟨_, rfl, ?_⟩
 have hz1 := Qb.mk hz1
 have HB3 := Qe HB2 hbq3
 refine hK.out _ _ ((Qa (Qc hbx.out HB3) 2).trans rfl) (fun hHeld => ?_)
 clear hK K
 refine Qq (a' := ?_) ?_ ?_
 rotate_left
 ·show Act.put _ (some 123) _ = _
  simp only [Act.put, sA, sB, sC, Qk, Ql]
  rfl
 refine QQ (i := 4) (N := some 124) (bm 8 31) rfl rfl (by kernel_rfl) (by decide) (fun K hK => ?_)
 refine QI Tryd.func82 (by kernel_rfl) rfl #[.string s1] (by rfl) rfl rfl (by simp only [List.map_toArray, List.map_cons, List.map_nil]; rfl) ?_
 (with_reducible refine (QV s1 w3).mono ?_)
 rintro e w4 ⟨rfl, hbq4⟩
 refine ⟨_, rfl, ?_⟩
 have HB4 := Qe HB3 hbq4
 refine hK.out _ _ ((Qa (Qc hbx.out HB4) 2).trans rfl) (fun hHeld => ?_)
 clear hK K
 refine Qq (a' := ?_) ?_ ?_
 rotate_left
 ·show Act.put _ (some 124) _ = _
  simp only [Act.put, sA, sB, sC, Qk, Ql]
  rfl
 refine QQ (i := 5) (N := some 125) (bm 8 63) rfl rfl (by kernel_rfl) (by decide) (fun K hK => ?_)
 refine QM (w1 := ?_) (v := ?_) (by rfl) rfl ?_ ?_
 rotate_left 2
 ·go_simp
  constructor
  ·rfl
  ·rfl
 have HB5 := Qd HB4 (.cells #[.string ⟨#[102, 97, 105, 108]⟩, .slice none 0 0, .int .i64 0, .string s1, .slice none 0 0, .int .i64 0] 109)
 have hbk := Qv w4 (.cells #[.string ⟨#[102, 97, 105, 108]⟩, .slice none 0 0, .int .i64 0, .string s1, .slice none 0 0, .int .i64 0] 109 (0, 0))
 refine hK.out _ _ ((Qa (Qc hbx.out HB5) 2).trans rfl) (fun hHeld => ?_)
 clear hK K
 refine Qq (a' := ?_) ?_ ?_
 rotate_left
 ·show Act.put _ (some 125) _ = _
  simp only [Act.put, sA, sB, sC, Qk, Ql]
  rfl
 refine QQ (i := 6) (N := some 126) (bm 8 127) rfl rfl (by kernel_rfl) (by decide) (fun K hK => ?_)
 refine QI Tryd.func81 (by kernel_rfl) rfl #[.slice (some ⟨w4.heap.size, 0, none⟩) 2 2] (by rfl) rfl rfl (by simp only [List.map_toArray, List.map_cons, List.map_nil]; rfl) ?_
 (with_reducible refine (Z7 _ _ _ _).mono ?_)
 rintro e w6 ⟨rfl, hbq6⟩
 refine ⟨_, rfl, ?_⟩
 have HB6 := Qe HB5 hbq6
 have hNL : NL w6 W0.heap.size (some ⟨w4.heap.size, 0, none⟩) 2 _ := NL.two (Qc hbk hbq6) HB4.size (NL.nil _ _) (Nat.le_refl _) (NL.nil _ _) (Nat.le_refl _)
 have hr1 := Qc hrx.out HB6
 have j0 := (Qa hr1 0).trans rfl
 have j1 := (Qa hr1 1).trans rfl
 have j2 := (Qa hr1 2).trans rfl
 have z0 := Qg hr1 0
 have z1 := Qg hr1 1
 have z2 := Qg hr1 2
 refine hK.out _ _ ((Qa (Qc hbx.out HB6) 2).trans rfl) (fun hHeld => ?_)
 clear hK K
 refine Qq (a' := ?_) ?_ ?_
 rotate_left
 ·show Act.put _ (some 126) _ = _
  simp only [Act.put, sA, sB, sC, Qk, Ql]
  rfl
 refine Zw (i := 7) (N := none) (bm 8 255) rfl rfl (by kernel_rfl) (by decide) (fun K hK => ?_)
 refine Vk (w1 := ?_) (by rfl) rfl ?_ ?_
 rotate_left
 ·go_simp
  rfl
 refine hK.out _ _ ?_
 clear hK K
 refine Zx (by kernel_rfl) ?_
 clear hHeld
 go_wp2
 refine bodyPost_ret (v := .agg #[.string ⟨#[]⟩, .slice (some ⟨w4.heap.size, 0, none⟩) 2 2, .int .i64 0]) (by simp [results, Tryd.results86, go_sem, *]) rfl ⟨_, (some ⟨w4.heap.size, 0, none⟩), _, 2, (⟨#[102, 97, 105, 108]⟩ : ByteArray).size + 3 + 0 + (s1.size + 3 + 0), rfl, by have h1 := hz1.out; have h2 : (⟨#[102, 97, 105, 108]⟩ : ByteArray).size = 4 := rfl; rw [sz0]; omega, Nat.le_refl _, ?_, ?_⟩
 ·exact ((((hNL).far (p := ⟨w.heap.size + 1, 0, none⟩) hl5.out _).far (p := ⟨w.heap.size + 1, 1, none⟩) hl5.out _).far (p := ⟨w.heap.size + 1, 2, none⟩) hl5.out _).mono (by have := hl5.out; omega)
 ·exact (((HB0.out.trans (HB6.mono HB0.out.size)).setCell (p := ⟨w.heap.size + 1, 0, none⟩) (Nat.le_succ _) _).setCell (p := ⟨w.heap.size + 1, 1, none⟩) (Nat.le_succ _) _).setCell (p := ⟨w.heap.size + 1, 2, none⟩) (Nat.le_succ _) _
set_option maxHeartbeats 8000000 in
set_option maxRecDepth 100000 in
theorem exprNode_fn (f1 : ByteArray) (f2 : Int) (w : World) (hg : GG w) {A3 A4 A5 : Option Addr} {n3 c3 n4 c4 n5 c5 : Nat} (ns : List ByteArray) (hns : ns.length = n3) (hn3 : n3 ≤ 100000000000) (hC3 : Kd.string.C w A3 n3 ns) (l : List S29) (x : S29) (hx : XN x) (hi : l[0]? = some x) (hC4 : k29.C w A4 n4 l):
  Calls Tryd.prog 86 #[.agg #[.int .i64 6, .string f1, .int .i64 f2, .slice A3 n3 c3, .slice A4 n4 c4, .slice A5 n5 c5]] w (ND (nmz ns + 100 + eB x) w) := by
 have E : ∀ W : World, ∀ o : Obj, (W.alloc o).heap.size = W.heap.size + 1 := fun W o => Array.size_push _
 obtain ⟨W0, hW0⟩ : ∃ W0, (w.alloc (.cells #[.int .i64 6, .string f1, .int .i64 f2, .slice A3 n3 c3, .slice A4 n4 c4, .slice A5 n5 c5] 29)).alloc (.cells #[.string ⟨#[]⟩, .slice none 0 0, .int .i64 0] 109) = W0 := ⟨_, rfl⟩
 have HB0 : Qb (Below w.heap.size w W0) := ⟨by rw [← hW0]; exact Qd (Qd (Below.refl _ _) _) _⟩
 have hbx : Qb (W0.heap[w.heap.size]? = some (.cells #[.int .i64 6, .string f1, .int .i64 f2, .slice A3 n3 c3, .slice A4 n4 c4, .slice A5 n5 c5] 29 (0, 0))) := ⟨by rw [← hW0]; exact (Below.heap_alloc _ _ _ (by rw [E]; omega)).trans (Qv w _)⟩
 have hrx : Qb (W0.heap[w.heap.size + 1]? = some (.cells #[.string ⟨#[]⟩, .slice none 0 0, .int .i64 0] 109 (0, 0))) := ⟨by rw [← hW0, ← E w]; exact Qv _ _⟩
 have hl1 : Qb (W0.heap.size = w.heap.size + 2) := ⟨by rw [← hW0, E, E]⟩
 have hg0 := Qb.mk (GG.below hg HB0.out)
 have k0 := (Qa hbx.out 0).trans rfl
 have k1 := (Qa hbx.out 1).trans rfl
 have k2 := (Qa hbx.out 2).trans rfl
 have k3 := (Qa hbx.out 3).trans rfl
 have k4 := (Qa hbx.out 4).trans rfl
 have k5 := (Qa hbx.out 5).trans rfl
 have hl5 : Qb (w.heap.size + 1 < W0.heap.size) := ⟨by have := hl1.out; omega⟩
 have hp4 : 0 < n4 := by have h1 := (List.getElem?_eq_some_iff.1 hi).1; have h2 := hC4.1; omega
 obtain ⟨ad, B3, d3, B4, d4, B5, d5, rfl, he, g3, g4, g5, _, _, _⟩ := elem33 (Kd.Qj hC4 HB0.out) 0 hi
 rw [show ad.add (0 * 6) = ad by simp [Addr.add]] at he
 have he := Qb.mk he
 have h3 := Qb.mk g3
 have h4 := Qb.mk g4
 have h5 := Qb.mk g5
 clear g3 g4 g5 hC4
 have CW : ∀ w2, Below W0.heap.size W0 w2 → Calls Tryd.prog 83 #[.slice A3 n3 c3] w2 fun e w' => ∃ A1 c1, e = .returned (.slice A1 n3 c1) ∧ n3 ≤ c1 ∧ NL w' w2.heap.size A1 n3 (nmz ns) ∧ Below w2.heap.size w2 w' := by
  intro w2 hb
  subst hns
  exact ws_calls ns w2 (by omega) (Kd.Qj (Kd.Qj hC3 HB0.out) hb)
 clear hC3
 go_enter Tryd.func86, Tryd.ntmps86
 go_wp2
 (try rw [hW0])
 clear hW0 k0 k1 k2 k3 k4 k5
 have HB_ : Below W0.heap.size W0 W0.drew := Qi (Below.refl _ _)
 have hg9 := Qb.mk (GG.below hg0.out HB_)
 refine QZ (n := 13) (S := fun w' => w'.cell? ⟨w.heap.size, 3, none⟩ = some (.slice A3 n3 c3) ∧ w'.cell? ⟨w.heap.size, 4, none⟩ = some (.slice (some ad) n4 c4) ∧ w'.cell? ad = some (.int .i64 x.f0) ∧ w'.cell? ⟨(ad).block, (ad).off + 1, none⟩ = some (.string x.f1) ∧ w'.cell? ⟨(ad).block, (ad).off + 2, none⟩ = some (.int .i64 x.f2) ∧ w'.cell? ⟨(ad).block, (ad).off + 3, none⟩ = some (.slice B3 x.f3.length d3) ∧ w'.cell? ⟨(ad).block, (ad).off + 4, none⟩ = some (.slice B4 x.f4.length d4) ∧ w'.cell? ⟨(ad).block, (ad).off + 5, none⟩ = some (.slice B5 x.f5.length d5)) (ds := [12]) (bm 13 0) (by kernel_rfl) rfl rfl ⟨(Qa (Qc hbx.out HB_) 3).trans rfl, (Qa (Qc hbx.out HB_) 4).trans rfl, (he.out.below HB_).1, (he.out.below HB_).2.1, (he.out.below HB_).2.2.1, (he.out.below HB_).2.2.2.1, (he.out.below HB_).2.2.2.2.1, (he.out.below HB_).2.2.2.2.2⟩ (fun hHeld => ?_)
 generalize W0.drew = W9 at *
 refine Q4 (i := 1) (N := some 27) (v := ?_) (a' := ?_) (bm 13 2) rfl rfl (by kernel_rfl) (fun _ _ _ h => h) (Or.inl ⟨by rfl, ?_⟩) ?_ ?_
 rotate_left
 ·intro w'
  go_simp
  with_reducible rfl
 rotate_left
 ·simp only [Act.put, sA, sB, sC, Qk, Ql]
  rfl
 refine Q4 (i := 5) (N := some 31) (v := ?_) (a' := ?_) (bm 13 34) rfl rfl (by kernel_rfl) (fun _ _ _ h => h) (Or.inl ⟨by rfl, ?_⟩) ?_ ?_
 rotate_left
 ·intro w'
  go_simp
  with_reducible rfl
 rotate_left
 ·simp only [Act.put, sA, sB, sC, Qk, Ql]
  rfl
 refine QE (i := 2) (N := some 28) (v := ?_) (a' := ?_) (bm 13 38) rfl rfl (by kernel_rfl) (fun _ _ _ h => h) (Or.inl ⟨by rfl, ?_⟩) hHeld ?_ ?_
 rotate_left
 ·rintro w' ⟨s0, s1, s2, s3, s4, s5, s6, s7⟩
  go_simp
  with_reducible rfl
 rotate_left
 ·simp only [Act.put, sA, sB, sC, Qk, Ql]
  rfl
 refine QE (i := 6) (N := some 32) (v := ?_) (a' := ?_) (bm 13 102) rfl rfl (by kernel_rfl) (fun _ _ _ h => h) (Or.inl ⟨by rfl, ?_⟩) hHeld ?_ ?_
 rotate_left
 ·rintro w' ⟨s0, s1, s2, s3, s4, s5, s6, s7⟩
  go_simp
  with_reducible rfl
 rotate_left
 ·simp only [Act.put, sA, sB, sC, Qk, Ql]
  rfl
 refine Q4 (i := 7) (N := some 33) (v := ?_) (a' := ?_) (bm 13 230) rfl rfl (by kernel_rfl) (fun _ _ _ h => h) (Or.inl ⟨by rfl, ?_⟩) ?_ ?_
 rotate_left
 ·intro w'
  go_simp
  with_reducible rfl
 rotate_left
 ·simp only [Act.put, sA, sB, sC, Qk, Ql]
  rfl
 refine QE (i := 8) (N := some 34) (v := ?_) (a' := ?_) (bm 13 486) rfl rfl (by kernel_rfl) (fun _ _ _ h => h) (Or.inl ⟨by rfl, ?_⟩) hHeld ?_ ?_
 rotate_left
 ·rintro w' ⟨s0, s1, s2, s3, s4, s5, s6, s7⟩
  go_simp
  with_reducible rfl
 rotate_left
 ·simp only [Act.put, sA, sB, sC, Qk, Ql]
  rfl
 refine QQ (i := 0) (N := some 26) (bm 13 487) rfl rfl (by kernel_rfl) (by decide) (fun K hK => ?_)
 refine QI Tryd.func82 (by kernel_rfl) rfl #[.string ⟨#[102, 110]⟩] (by rfl) rfl rfl (by simp only [List.map_toArray, List.map_cons, List.map_nil]; rfl) ?_
 (with_reducible refine (QV _ W9).mono ?_)
 rintro e w2 ⟨rfl, hbq2⟩
 refine ⟨_, rfl, ?_⟩
 have HB2 := Qe HB_ hbq2
 refine hK.out _ _ ⟨(Qa (Qc hbx.out HB2) 3).trans rfl, (Qa (Qc hbx.out HB2) 4).trans rfl, (he.out.below HB2).1, (he.out.below HB2).2.1, (he.out.below HB2).2.2.1, (he.out.below HB2).2.2.2.1, (he.out.below HB2).2.2.2.2.1, (he.out.below HB2).2.2.2.2.2⟩ (fun hHeld => ?_)
 clear hK K
 refine Qq (a' := ?_) ?_ ?_
 rotate_left
 ·show Act.put _ (some 26) _ = _
  simp only [Act.put, sA, sB, sC, Qk, Ql]
  rfl
 refine QQ (i := 3) (N := some 29) (bm 13 495) rfl rfl (by kernel_rfl) (by decide) (fun K hK => ?_)
 refine QI Tryd.func83 (by kernel_rfl) rfl #[.slice A3 n3 c3] (by rfl) rfl rfl (by simp only [List.map_toArray, List.map_cons, List.map_nil]; rfl) ?_
 (with_reducible refine (CW w2 HB2).mono ?_)
 rintro e w3 ⟨A1, c1, rfl, hc1, hn1, hbq3⟩
 refine ⟨_, rfl, ?_⟩
 have HB3 := Qe HB2 hbq3
 refine hK.out _ _ ⟨(Qa (Qc hbx.out HB3) 3).trans rfl, (Qa (Qc hbx.out HB3) 4).trans rfl, (he.out.below HB3).1, (he.out.below HB3).2.1, (he.out.below HB3).2.2.1, (he.out.below HB3).2.2.2.1, (he.out.below HB3).2.2.2.2.1, (he.out.below HB3).2.2.2.2.2⟩ (fun hHeld => ?_)
 clear hK K
 refine Qq (a' := ?_) ?_ ?_
 rotate_left
 ·show Act.put _ (some 29) _ = _
  simp only [Act.put, sA, sB, sC, Qk, Ql]
  rfl
 refine QQ (i := 4) (N := some 30) (bm 13 511) rfl rfl (by kernel_rfl) (by decide) (fun K hK => ?_)
 refine QI Tryd.func81 (by kernel_rfl) rfl #[.slice A1 n3 c1] (by rfl) rfl rfl (by simp only [List.map_toArray, List.map_cons, List.map_nil]; rfl) ?_
 (with_reducible refine (Z7 _ _ _ _).mono ?_)
 rintro e w4 ⟨rfl, hbq4⟩
 refine ⟨_, rfl, ?_⟩
 have HB4 := Qe HB3 hbq4
 refine hK.out _ _ ⟨(Qa (Qc hbx.out HB4) 3).trans rfl, (Qa (Qc hbx.out HB4) 4).trans rfl, (he.out.below HB4).1, (he.out.below HB4).2.1, (he.out.below HB4).2.2.1, (he.out.below HB4).2.2.2.1, (he.out.below HB4).2.2.2.2.1, (he.out.below HB4).2.2.2.2.2⟩ (fun hHeld => ?_)
 clear hK K
 refine Qq (a' := ?_) ?_ ?_
 rotate_left
 ·show Act.put _ (some 30) _ = _
  simp only [Act.put, sA, sB, sC, Qk, Ql]
  rfl
 refine QQ (i := 9) (N := some 35) (bm 13 1023) rfl rfl (by kernel_rfl) (by decide) (fun K hK => ?_)
 refine QI Tryd.func86 (by kernel_rfl) rfl #[.agg #[.int .i64 x.f0, .string x.f1, .int .i64 x.f2, .slice B3 x.f3.length d3, .slice B4 x.f4.length d4, .slice B5 x.f5.length d5]] (by rfl) rfl rfl (by simp only [List.map_toArray, List.map_cons, List.map_nil]; rfl) ?_
 (with_reducible refine (hx.at w4 (GG.below hg0.out HB4) (Kd.Qj h3.out HB4) (Kd.Qj h4.out HB4) (Kd.Qj h5.out HB4)).mono ?_)
 rintro e w5 ⟨s5, A5', n5', c5', z5, rfl, hz5, hc5, hn5, hbq5⟩
 refine ⟨_, rfl, ?_⟩
 have hz5 := Qb.mk hz5
 have HB5 := Qe HB4 hbq5
 refine hK.out _ _ ⟨(Qa (Qc hbx.out HB5) 3).trans rfl, (Qa (Qc hbx.out HB5) 4).trans rfl, (he.out.below HB5).1, (he.out.below HB5).2.1, (he.out.below HB5).2.2.1, (he.out.below HB5).2.2.2.1, (he.out.below HB5).2.2.2.2.1, (he.out.below HB5).2.2.2.2.2⟩ (fun hHeld => ?_)
 clear hK K
 refine Qq (a' := ?_) ?_ ?_
 rotate_left
 ·show Act.put _ (some 35) _ = _
  simp only [Act.put, sA, sB, sC, Qk, Ql]
  rfl
 refine QQ (i := 10) (N := some 36) (bm 13 2047) rfl rfl (by kernel_rfl) (by decide) (fun K hK => ?_)
 refine QM (w1 := ?_) (v := ?_) (by rfl) rfl ?_ ?_
 rotate_left 2
 ·go_simp
  constructor
  ·rfl
  ·rfl
 have HB6 := Qd HB5 (.cells #[.string ⟨#[102, 110]⟩, .slice none 0 0, .int .i64 0, .string ⟨#[]⟩, .slice A1 n3 c1, .int .i64 0, .string s5, .slice A5' n5' c5', .int .i64 0] 109)
 have hbk := Qv w5 (.cells #[.string ⟨#[102, 110]⟩, .slice none 0 0, .int .i64 0, .string ⟨#[]⟩, .slice A1 n3 c1, .int .i64 0, .string s5, .slice A5' n5' c5', .int .i64 0] 109 (0, 0))
 refine hK.out _ _ ⟨(Qa (Qc hbx.out HB6) 3).trans rfl, (Qa (Qc hbx.out HB6) 4).trans rfl, (he.out.below HB6).1, (he.out.below HB6).2.1, (he.out.below HB6).2.2.1, (he.out.below HB6).2.2.2.1, (he.out.below HB6).2.2.2.2.1, (he.out.below HB6).2.2.2.2.2⟩ (fun hHeld => ?_)
 clear hK K
 refine Qq (a' := ?_) ?_ ?_
 rotate_left
 ·show Act.put _ (some 36) _ = _
  simp only [Act.put, sA, sB, sC, Qk, Ql]
  rfl
 refine QQ (i := 11) (N := some 37) (bm 13 4095) rfl rfl (by kernel_rfl) (by decide) (fun K hK => ?_)
 refine QI Tryd.func81 (by kernel_rfl) rfl #[.slice (some ⟨w5.heap.size, 0, none⟩) 3 3] (by rfl) rfl rfl (by simp only [List.map_toArray, List.map_cons, List.map_nil]; rfl) ?_
 (with_reducible refine (Z7 _ _ _ _).mono ?_)
 rintro e w7 ⟨rfl, hbq7⟩
 refine ⟨_, rfl, ?_⟩
 have HB7 := Qe HB6 hbq7
 have hNL : NL w7 W0.heap.size (some ⟨w5.heap.size, 0, none⟩) 3 _ := NL.three (Qc hbk hbq7) HB5.size (NL.nil _ _) (Nat.le_refl _) ((((((hn1.mono HB2.size).below hbq4).below hbq5).below (Qd (Below.refl _ _) _)).below hbq7)) hc1 (((hn5.mono HB4.size).below (Qd (Below.refl _ _) _)).below hbq7) hc5
 have hr1 := Qc hrx.out HB7
 have j0 := (Qa hr1 0).trans rfl
 have j1 := (Qa hr1 1).trans rfl
 have j2 := (Qa hr1 2).trans rfl
 have z0 := Qg hr1 0
 have z1 := Qg hr1 1
 have z2 := Qg hr1 2
 refine hK.out _ _ ⟨(Qa (Qc hbx.out HB7) 3).trans rfl, (Qa (Qc hbx.out HB7) 4).trans rfl, (he.out.below HB7).1, (he.out.below HB7).2.1, (he.out.below HB7).2.2.1, (he.out.below HB7).2.2.2.1, (he.out.below HB7).2.2.2.2.1, (he.out.below HB7).2.2.2.2.2⟩ (fun hHeld => ?_)
 clear hK K
 refine Qq (a' := ?_) ?_ ?_
 rotate_left
 ·show Act.put _ (some 37) _ = _
  simp only [Act.put, sA, sB, sC, Qk, Ql]
  rfl
 refine Zw (i := 12) (N := none) (bm 13 8191) rfl rfl (by kernel_rfl) (by decide) (fun K hK => ?_)
 refine Vk (w1 := ?_) (by rfl) rfl ?_ ?_
 rotate_left
 ·go_simp
  rfl
 refine hK.out _ _ ?_
 clear hK K
 refine Zx (by kernel_rfl) ?_
 clear hHeld
 go_wp2
 refine bodyPost_ret (v := .agg #[.string ⟨#[]⟩, .slice (some ⟨w5.heap.size, 0, none⟩) 3 3, .int .i64 0]) (by simp [results, Tryd.results86, go_sem, *]) rfl ⟨_, (some ⟨w5.heap.size, 0, none⟩), _, 3, (⟨#[102, 110]⟩ : ByteArray).size + 3 + 0 + ((⟨#[]⟩ : ByteArray).size + 3 + nmz ns) + (s5.size + 3 + z5), rfl, by have h1 := hz5.out; have h2 : (⟨#[102, 110]⟩ : ByteArray).size = 2 := rfl; have h3 := sz0; omega, Nat.le_refl _, ?_, ?_⟩
 ·exact ((((hNL).far (p := ⟨w.heap.size + 1, 0, none⟩) hl5.out _).far (p := ⟨w.heap.size + 1, 1, none⟩) hl5.out _).far (p := ⟨w.heap.size + 1, 2, none⟩) hl5.out _).mono (by have := hl5.out; omega)
 ·exact (((HB0.out.trans (HB7.mono HB0.out.size)).setCell (p := ⟨w.heap.size + 1, 0, none⟩) (Nat.le_succ _) _).setCell (p := ⟨w.heap.size + 1, 1, none⟩) (Nat.le_succ _) _).setCell (p := ⟨w.heap.size + 1, 2, none⟩) (Nat.le_succ _) _
set_option maxHeartbeats 8000000 in
set_option maxRecDepth 100000 in
theorem exprNode_rest (f0 : Int) (f1 : ByteArray) (f2 : Int) (w : World) (hg : GG w) {A3 A4 A5 : Option Addr} {n3 c3 n4 c4 n5 c5 : Nat} (hop : ∀ k : Int, k = 1 ∨ k = 2 ∨ k = 3 ∨ k = 4 ∨ k = 6 ∨ k = 7 ∨ k = 8 ∨ k = 10 → f0 ≠ k) (l : List S29) (hx : ∀ x ∈ l, XN x) (hl : l.length ≤ 100000000000) (hC4 : k29.C w A4 n4 l):
  Calls Tryd.prog 86 #[.agg #[.int .i64 f0, .string f1, .int .i64 f2, .slice A3 n3 c3, .slice A4 n4 c4, .slice A5 n5 c5]] w (ND (f1.size + 100 + eBL l) w) := by
 have E : ∀ W : World, ∀ o : Obj, (W.alloc o).heap.size = W.heap.size + 1 := fun W o => Array.size_push _
 obtain ⟨W0, hW0⟩ : ∃ W0, (w.alloc (.cells #[.int .i64 f0, .string f1, .int .i64 f2, .slice A3 n3 c3, .slice A4 n4 c4, .slice A5 n5 c5] 29)).alloc (.cells #[.string ⟨#[]⟩, .slice none 0 0, .int .i64 0] 109) = W0 := ⟨_, rfl⟩
 have HB0 : Qb (Below w.heap.size w W0) := ⟨by rw [← hW0]; exact Qd (Qd (Below.refl _ _) _) _⟩
 have hbx : Qb (W0.heap[w.heap.size]? = some (.cells #[.int .i64 f0, .string f1, .int .i64 f2, .slice A3 n3 c3, .slice A4 n4 c4, .slice A5 n5 c5] 29 (0, 0))) := ⟨by rw [← hW0]; exact (Below.heap_alloc _ _ _ (by rw [E]; omega)).trans (Qv w _)⟩
 have hrx : Qb (W0.heap[w.heap.size + 1]? = some (.cells #[.string ⟨#[]⟩, .slice none 0 0, .int .i64 0] 109 (0, 0))) := ⟨by rw [← hW0, ← E w]; exact Qv _ _⟩
 have hl1 : Qb (W0.heap.size = w.heap.size + 2) := ⟨by rw [← hW0, E, E]⟩
 have hg0 := Qb.mk (GG.below hg HB0.out)
 obtain ⟨b9, q9⟩ : ∃ b, (f0 == 9) = b := ⟨_, rfl⟩
 have q1 : (f0 == 1) = false := beq_eq_false_iff_ne.2 (hop 1 (by omega))
 have q2 : (f0 == 2) = false := beq_eq_false_iff_ne.2 (hop 2 (by omega))
 have q3 : (f0 == 3) = false := beq_eq_false_iff_ne.2 (hop 3 (by omega))
 have q4 : (f0 == 4) = false := beq_eq_false_iff_ne.2 (hop 4 (by omega))
 have q6 : (f0 == 6) = false := beq_eq_false_iff_ne.2 (hop 6 (by omega))
 have q7 : (f0 == 7) = false := beq_eq_false_iff_ne.2 (hop 7 (by omega))
 have q8 : (f0 == 8) = false := beq_eq_false_iff_ne.2 (hop 8 (by omega))
 have q10 : (f0 == 10) = false := beq_eq_false_iff_ne.2 (hop 10 (by omega))
 have hC := Qb.mk (Kd.Qj hC4 HB0.out)
 have hn4 : Qb (l.length = n4) := ⟨hC4.1⟩
 clear hop hC4
 have k0 := (Qa hbx.out 0).trans rfl
 have k1 := (Qa hbx.out 1).trans rfl
 have k2 := (Qa hbx.out 2).trans rfl
 have k3 := (Qa hbx.out 3).trans rfl
 have k4 := (Qa hbx.out 4).trans rfl
 have k5 := (Qa hbx.out 5).trans rfl
 cases b9
 ·go_enter Tryd.func86, Tryd.ntmps86
  go_wp2_with (first | (go_at_call 81; (try rw [hW0]); go_loud (with_reducible refine (Z7 none 0 0 W0).mono ?_); rintro r w2 ⟨rfl, hb2⟩; have HB2 := Qb.mk hb2; (have kk := (Qa (Qc hbx.out (Qd hb2 (.cells #[.string ⟨#[]⟩, .slice none 0 0, .int .i64 0] 109))) 0).trans rfl); clear hb2 k0 k1 k2 k3 k4 k5))
  obtain ⟨xb, hxb⟩ : ∃ xb, w2.heap.size = xb := ⟨_, rfl⟩
  obtain ⟨Wx, hWx⟩ : ∃ Wx, w2.alloc (.cells #[.string ⟨#[]⟩, .slice none 0 0, .int .i64 0] 109) = Wx := ⟨_, rfl⟩
  have hBx : Qb (Below W0.heap.size W0 Wx) := ⟨by rw [← hWx]; exact Qd HB2.out _⟩
  have hXx : Qb (Wx.heap[xb]? = some (.cells #[.string ⟨#[]⟩, .slice none 0 0, .int .i64 0] 109 (0, 0))) := ⟨by rw [← hWx, ← hxb]; exact Qv _ _⟩
  have hsx : Qb (xb + 1 ≤ Wx.heap.size ∧ W0.heap.size ≤ xb) := ⟨by have := HB2.out.size; rw [← hWx, E]; omega⟩
  have hrX : Qb (NR Wx (xb + 1) none none 0 0 0) := ⟨NR.nil _ _ _⟩
  rw [hxb, hWx]
  clear hWx hxb HB2 hW0
  have hn4 := hn4.out
  go_loopg [8] (n4 + 1) (fun kq v8 w' => ∃ (i m c z : Nat) (A : Option Addr), v8 = .int .i64 (i : Int) ∧ i + kq = n4 + 1 ∧ 1 ≤ kq ∧ Qb (m ≤ i + 1) ∧ Qb (w'.heap[xb]? = some (.cells #[.string ⟨#[]⟩, .slice A m c, .int .i64 0] 109 (0, 0))) ∧ Qb (NR w' (xb + 1) none A m c z) ∧ Qb (z ≤ f1.size + 3 + eBL (l.take i)) ∧ Qb (Below W0.heap.size W0 w') ∧ Qb (xb + 1 ≤ w'.heap.size ∧ W0.heap.size ≤ xb))
  case atStart => exact ⟨0, 0, 0, 0, none, rfl, by omega, by omega, ⟨by omega⟩, hXx, hrX, ⟨by omega⟩, hBx, hsx⟩
  case round =>
   obtain ⟨i, m, c, z, A, rfl, hi, hk, hm, hX, hr, hz, hB, hs⟩ := hrel
   have hXb := hX
   have hrow := hr
   have hxs := hs
   have hBr := hB
   have hms : Qb (m ≤ 200000000000) := ⟨by have := hm.out; omega⟩
   have hgr := Qb.mk (GG.below hg0.out hBr.out)
   clear hX hr hs hB
   have k4 := (Qa (Qc hbx.out hBr.out) 4).trans rfl
   by_cases hlt : i < n4
   ·have hli : i < l.length := by omega
    have hxi : l[i]? = some l[i] := List.getElem?_eq_getElem hli
    have hx := hx _ (List.getElem_mem hli)
    generalize l[i] = x at hxi hx
    obtain ⟨ad, B3, d3, B4, d4, B5, d5, rfl, he, g3, g4, g5, _, _, _⟩ := elem33 (Kd.Qj hC.out hBr.out) i hxi
    have he := Qb.mk he
    have h3 := Qb.mk g3
    have h4 := Qb.mk g4
    have h5 := Qb.mk g5
    clear g3 g4 g5
    have p0 : (0 : Int) ≤ (i : Int) := by omega
    have p1 : (i : Int) < (n4 : Int) := by omega
    have q1 : decide ((i : Int) < (n4 : Int)) = true := decide_eq_true p1
    go_wp2
    have HB_ : Below wr.heap.size wr wr.drew := Qi (Below.refl _ _)
    have hg9 := Qb.mk (GG.below hgr.out HB_)
    refine QZ (n := 12) (S := fun w' => w'.cell? ⟨xb, 1, none⟩ = some (.slice A m c) ∧ w'.cell? ⟨w.heap.size, 4, none⟩ = some (.slice (some ad) n4 c4) ∧ w'.cell? (ad.add (i * 6)) = some (.int .i64 x.f0) ∧ w'.cell? ⟨((ad.add (i * 6))).block, ((ad.add (i * 6))).off + 1, none⟩ = some (.string x.f1) ∧ w'.cell? ⟨((ad.add (i * 6))).block, ((ad.add (i * 6))).off + 2, none⟩ = some (.int .i64 x.f2) ∧ w'.cell? ⟨((ad.add (i * 6))).block, ((ad.add (i * 6))).off + 3, none⟩ = some (.slice B3 x.f3.length d3) ∧ w'.cell? ⟨((ad.add (i * 6))).block, ((ad.add (i * 6))).off + 4, none⟩ = some (.slice B4 x.f4.length d4) ∧ w'.cell? ⟨((ad.add (i * 6))).block, ((ad.add (i * 6))).off + 5, none⟩ = some (.slice B5 x.f5.length d5)) (ds := [9, 11]) (bm 12 0) (by kernel_rfl) rfl rfl ⟨(Qa (Qc hXb.out HB_) 1).trans rfl, (Qa (Qc (Qc hbx.out hBr.out) HB_) 4).trans rfl, (he.out.below HB_).1, (he.out.below HB_).2.1, (he.out.below HB_).2.2.1, (he.out.below HB_).2.2.2.1, (he.out.below HB_).2.2.2.2.1, (he.out.below HB_).2.2.2.2.2⟩ (fun hHeld => ?_)
    generalize wr.drew = W9 at *
    refine Q4 (i := 0) (N := some 152) (v := ?_) (a' := ?_) (bm 12 1) rfl rfl (by kernel_rfl) (fun _ _ _ h => h) (Or.inl ⟨by rfl, ?_⟩) ?_ ?_
    rotate_left
    ·intro w'
     go_simp
     with_reducible rfl
    rotate_left
    ·simp only [Act.put, sA, sB, sC, Qk, Ql]
     rfl
    refine Q4 (i := 2) (N := some 154) (v := ?_) (a' := ?_) (bm 12 5) rfl rfl (by kernel_rfl) (fun _ _ _ h => h) (Or.inl ⟨by rfl, ?_⟩) ?_ ?_
    rotate_left
    ·intro w'
     go_simp
     with_reducible rfl
    rotate_left
    ·simp only [Act.put, sA, sB, sC, Qk, Ql]
     rfl
    refine Q4 (i := 4) (N := some 156) (v := ?_) (a' := ?_) (bm 12 21) rfl rfl (by kernel_rfl) (fun _ _ _ h => h) (Or.inl ⟨by rfl, ?_⟩) ?_ ?_
    rotate_left
    ·intro w'
     go_simp
     with_reducible rfl
    rotate_left
    ·simp only [Act.put, sA, sB, sC, Qk, Ql]
     rfl
    refine QE (i := 1) (N := some 153) (v := ?_) (a' := ?_) (bm 12 23) rfl rfl (by kernel_rfl) (fun _ _ _ h => h) (Or.inl ⟨by rfl, ?_⟩) hHeld ?_ ?_
    rotate_left
    ·rintro w' ⟨s0, s1, s2, s3, s4, s5, s6, s7⟩
     go_simp
     with_reducible rfl
    rotate_left
    ·simp only [Act.put, sA, sB, sC, Qk, Ql]
     rfl
    refine QE (i := 3) (N := some 155) (v := ?_) (a' := ?_) (bm 12 31) rfl rfl (by kernel_rfl) (fun _ _ _ h => h) (Or.inl ⟨by rfl, ?_⟩) hHeld ?_ ?_
    rotate_left
    ·rintro w' ⟨s0, s1, s2, s3, s4, s5, s6, s7⟩
     go_simp
     with_reducible rfl
    rotate_left
    ·simp only [Act.put, sA, sB, sC, Qk, Ql]
     rfl
    refine Q4 (i := 5) (N := some 157) (v := ?_) (a' := ?_) (bm 12 63) rfl rfl (by kernel_rfl) (fun _ _ _ h => h) (Or.inl ⟨by rfl, ?_⟩) ?_ ?_
    rotate_left
    ·intro w'
     go_simp
     with_reducible rfl
    rotate_left
    ·simp only [Act.put, sA, sB, sC, Qk, Ql]
     rfl
    refine QE (i := 6) (N := some 158) (v := ?_) (a' := ?_) (bm 12 127) rfl rfl (by kernel_rfl) (fun _ _ _ h => h) (Or.inl ⟨by rfl, ?_⟩) hHeld ?_ ?_
    rotate_left
    ·rintro w' ⟨s0, s1, s2, s3, s4, s5, s6, s7⟩
     go_simp
     with_reducible rfl
    rotate_left
    ·simp only [Act.put, sA, sB, sC, Qk, Ql]
     rfl
    refine QQ (i := 7) (N := some 159) (bm 12 255) rfl rfl (by kernel_rfl) (by decide) (fun K hK => ?_)
    refine QI Tryd.func86 (by kernel_rfl) rfl #[.agg #[.int .i64 x.f0, .string x.f1, .int .i64 x.f2, .slice B3 x.f3.length d3, .slice B4 x.f4.length d4, .slice B5 x.f5.length d5]] (by rfl) rfl rfl (by simp only [List.map_toArray, List.map_cons, List.map_nil]; rfl) ?_
    (with_reducible refine (hx.at W9 (GG.below hgr.out HB_) (Kd.Qj h3.out HB_) (Kd.Qj h4.out HB_) (Kd.Qj h5.out HB_)).mono ?_)
    rintro e w5 ⟨s5, A5', n5', c5', z5, rfl, hz5, hc5, hn5, hbq5⟩
    refine ⟨_, rfl, ?_⟩
    have hz5 := Qb.mk hz5
    have HB5 := Qe HB_ hbq5
    refine hK.out _ _ ⟨(Qa (Qc hXb.out HB5) 1).trans rfl, (Qa (Qc (Qc hbx.out hBr.out) HB5) 4).trans rfl, (he.out.below HB5).1, (he.out.below HB5).2.1, (he.out.below HB5).2.2.1, (he.out.below HB5).2.2.2.1, (he.out.below HB5).2.2.2.2.1, (he.out.below HB5).2.2.2.2.2⟩ (fun hHeld => ?_)
    clear hK K
    refine Qq (a' := ?_) ?_ ?_
    rotate_left
    ·show Act.put _ (some 159) _ = _
     simp only [Act.put, sA, sB, sC, Qk, Ql]
     rfl
    refine QQ (i := 8) (N := some 160) (bm 12 511) rfl rfl (by kernel_rfl) (by decide) (fun K hK => ?_)
    refine QM (w1 := ?_) (v := ?_) (by rfl) rfl ?_ ?_
    rotate_left 2
    ·go_simp
     constructor
     ·rfl
     ·rfl
    have HBb := Qd HB5 (.cells #[.string s5, .slice A5' n5' c5', .int .i64 0] 109)
    refine hK.out _ _ ⟨(Qa (Qc hXb.out HBb) 1).trans rfl, (Qa (Qc (Qc hbx.out hBr.out) HBb) 4).trans rfl, (he.out.below HBb).1, (he.out.below HBb).2.1, (he.out.below HBb).2.2.1, (he.out.below HBb).2.2.2.1, (he.out.below HBb).2.2.2.2.1, (he.out.below HBb).2.2.2.2.2⟩ (fun hHeld => ?_)
    clear hK K
    refine Qq (a' := ?_) ?_ ?_
    rotate_left
    ·show Act.put _ (some 160) _ = _
     simp only [Act.put, sA, sB, sC, Qk, Ql]
     rfl
    refine Zw (i := 9) (N := some 161) (bm 12 1023) rfl rfl (by kernel_rfl) (by decide) (fun K hK => ?_)
    refine ZX (w0 := w5) (xb + 1) (by rfl) (.tmp 153) (.tmp 160) rfl (A := A) (x0 := Option.none) (n := m) (c := c) (z := z) (s1 := s5) (A1 := A5') (n1 := n5') (c1 := c5') (z1 := z5) (q := W9.heap.size) rfl rfl (NR.below hrow.out HB5) hn5 hc5 ?_ ?_ (fun y hy => by cases hy) (Below.refl _ _) ?_ ?_ ?_
    ·intro k hk; have h1 := NR.lt hrow.out k hk; have h2 := HB_.size; omega
    ·have h1 := hxs.out; have h2 := HB_.size; omega
    ·have h1 := hxs.out; have h2 := HB5.size; omega
    ·have h1 := hms.out; omega
    intro A6 c6 w6 hr6 hb6 hg6
    clear hg6
    have hx6 := (hb6.block xb (Nat.lt_succ_self _)).trans (Qc hXb.out HB5)
    have hcz := (Qa hx6 1).trans rfl
    have hfz := Qg hx6 1
    refine hK.out _ _ ?_
    clear hK K
    refine Qq (a' := ?_) ?_ ?_
    rotate_left
    ·show Act.put _ (some 161) _ = _
     simp only [Act.put, sA, sB, sC, Qk, Ql]
     rfl
    refine Q4 (i := 10) (N := some 162) (v := ?_) (a' := ?_) (bm 12 2047) rfl rfl (by kernel_rfl) (fun _ _ _ h => h) (Or.inl ⟨by rfl, ?_⟩) ?_ ?_
    rotate_left
    ·intro w'
     go_simp
     with_reducible rfl
    rotate_left
    ·simp only [Act.put, sA, sB, sC, Qk, Ql]
     rfl
    refine Zw (i := 11) (N := none) (bm 12 4095) rfl rfl (by kernel_rfl) (by decide) (fun K hK => ?_)
    refine Vk (w1 := ?_) (by rfl) rfl ?_ ?_
    rotate_left
    ·go_simp
     rfl
    refine hK.out _ _ ?_
    clear hK K
    refine Zx (by kernel_rfl) ?_
    obtain ⟨W7, hW7⟩ : ∃ W7, w6.setCell ⟨xb, 1, none⟩ (.slice A6 (m + 1) c6) = W7 := ⟨_, rfl⟩
    have hX7 : Qb (W7.heap[xb]? = some (.cells #[.string ⟨#[]⟩, .slice A6 (m + 1) c6, .int .i64 0] 109 (0, 0))) := ⟨by rw [← hW7]; exact QP hx6 1 _ rfl⟩
    have hr7 : Qb (NR W7 (xb + 1) none A6 (m + 1) c6 (z + ((s5 : ByteArray).size + 3 + z5))) := ⟨by rw [← hW7]; exact NR.far hr6 (.inl (Nat.lt_succ_self _)) _⟩
    have hB7 : Qb (Below W0.heap.size W0 W7) := ⟨by rw [← hW7]; exact ((hBr.out.trans (HB5.mono hBr.out.size)).trans (hb6.mono (by have h1 := hxs.out; omega))).setCell (p := ⟨xb, 1, none⟩) (by have h1 := hxs.out; show W0.heap.size ≤ xb; omega) _⟩
    have hs7 : Qb (xb + 1 ≤ W7.heap.size ∧ W0.heap.size ≤ xb) := ⟨by have h1 := (Array.getElem?_eq_some_iff.1 hX7.out).1; have h2 := hxs.out; omega⟩
    rw [hW7]
    clear hHeld
    have hjn : Value.int .i64 (wrap64 ((i : Int) + 1)) = .int .i64 ((i + 1 : Nat) : Int) := by rw [show wrap64 ((i : Int) + 1) = (i : Int) + 1 by unfold wrap64; omega]; rfl
    have hi7 : i + 1 + (gk - 1) = n4 + 1 ∧ 1 ≤ gk - 1 ∧ gk - 1 < gk := by omega
    have hm7 : Qb (m + 1 ≤ i + 1 + 1) := ⟨by have := hm.out; omega⟩
    have hz7 : Qb (z + (s5.size + 3 + z5) ≤ f1.size + 3 + eBL (l.take (i + 1))) := ⟨by rw [eBL_take hxi]; have h1 := hz.out; have h2 := hz5.out; omega⟩
    clear q1 p0 p1
    go_wp2
    go_roundg (gk - 1)
    case measure => exact hi7.2.2
    case rel => exact ⟨i + 1, m + 1, c6, _, A6, by first | exact hjn | rfl, hi7.1, hi7.2.1, hm7, hX7, hr7, hz7, hB7, hs7⟩
   ·have q1 : decide ((i : Int) < (n4 : Int)) = false := decide_eq_false (by omega)
    have x0 := (Qa hXb.out 0).trans rfl
    have x1 := (Qa hXb.out 1).trans rfl
    have x2 := (Qa hXb.out 2).trans rfl
    have hr1 := Qc hrx.out hBr.out
    have j0 := (Qa hr1 0).trans rfl
    have j1 := (Qa hr1 1).trans rfl
    have j2 := (Qa hr1 2).trans rfl
    have z0 := Qg hr1 0
    have z1 := Qg hr1 1
    have z2 := Qg hr1 2
    have hl5 : Qb (w.heap.size + 1 < xb + 1 ∧ w.heap.size ≤ xb + 1) := ⟨by have h1 := hl1.out; have h2 := hxs.out; omega⟩
    go_wp2
    refine bodyPost_ret (v := .agg #[.string ⟨#[]⟩, .slice A m c, .int .i64 0]) (by simp [results, Tryd.results86, go_sem, *]) rfl ⟨_, A, _, c, z, rfl, by have h1 := hz.out; have h2 := eBL_le l i; rw [sz0]; omega, hrow.out.list.2, ?_, ?_⟩
    ·exact ((((hrow.out.list.1).far (p := ⟨w.heap.size + 1, 0, none⟩) (.inl hl5.out.1) _).far (p := ⟨w.heap.size + 1, 1, none⟩) (.inl hl5.out.1) _).far (p := ⟨w.heap.size + 1, 2, none⟩) (.inl hl5.out.1) _).list.mono hl5.out.2
    ·exact (((HB0.out.trans (hBr.out.mono HB0.out.size)).setCell (p := ⟨w.heap.size + 1, 0, none⟩) (Nat.le_succ _) _).setCell (p := ⟨w.heap.size + 1, 1, none⟩) (Nat.le_succ _) _).setCell (p := ⟨w.heap.size + 1, 2, none⟩) (Nat.le_succ _) _
 ·go_enter Tryd.func86, Tryd.ntmps86
  go_wp2_with (first | (go_at_call 81; (try rw [hW0]); go_loud (with_reducible refine (Z7 none 0 0 W0).mono ?_); rintro r w2 ⟨rfl, hb2⟩; have HB2 := Qb.mk hb2; (have kk := (Qa (Qc hbx.out (Qd hb2 (.cells #[.string ⟨#[]⟩, .slice none 0 0, .int .i64 0] 109))) 0).trans rfl); clear hb2 k0 k1 k2 k3 k4 k5))
  obtain ⟨xb, hxb⟩ : ∃ xb, w2.heap.size = xb := ⟨_, rfl⟩
  obtain ⟨Wx, hWx⟩ : ∃ Wx, w2.alloc (.cells #[.string ⟨#[]⟩, .slice none 0 0, .int .i64 0] 109) = Wx := ⟨_, rfl⟩
  have hBx : Qb (Below W0.heap.size W0 Wx) := ⟨by rw [← hWx]; exact Qd HB2.out _⟩
  have hXx : Qb (Wx.heap[xb]? = some (.cells #[.string ⟨#[]⟩, .slice none 0 0, .int .i64 0] 109 (0, 0))) := ⟨by rw [← hWx, ← hxb]; exact Qv _ _⟩
  have hsx : Qb (xb + 1 ≤ Wx.heap.size ∧ W0.heap.size ≤ xb) := ⟨by have := HB2.out.size; rw [← hWx, E]; omega⟩
  have hrX : Qb (NR Wx (xb + 1) none none 0 0 0) := ⟨NR.nil _ _ _⟩
  rw [hxb, hWx]
  clear hWx hxb HB2 hW0
  have hXb := hXx
  have hrow := hrX
  have hxs := hsx
  have hBr := hBx
  have hms : Qb (0 ≤ 200000000000) := ⟨by omega⟩
  have hgr := Qb.mk (GG.below hg0.out hBr.out)
  have HB_ : Below Wx.heap.size Wx Wx.drew := Qi (Below.refl _ _)
  have hg9 := Qb.mk (GG.below hgr.out HB_)
  refine QZ (n := 9) (S := fun w' => w'.cell? ⟨xb, 1, none⟩ = some (.slice none 0 0) ∧ w'.cell? ⟨w.heap.size, 1, none⟩ = some (.string f1)) (ds := [6, 8]) (bm 9 0) (by kernel_rfl) rfl rfl ⟨(Qa (Qc hXb.out HB_) 1).trans rfl, (Qa (Qc (Qc hbx.out hBr.out) HB_) 1).trans rfl⟩ (fun hHeld => ?_)
  generalize Wx.drew = W9 at *
  refine Q4 (i := 0) (N := some 137) (v := ?_) (a' := ?_) (bm 9 1) rfl rfl (by kernel_rfl) (fun _ _ _ h => h) (Or.inl ⟨by rfl, ?_⟩) ?_ ?_
  rotate_left
  ·intro w'
   go_simp
   with_reducible rfl
  rotate_left
  ·simp only [Act.put, sA, sB, sC, Qk, Ql]
   rfl
  refine Q4 (i := 2) (N := some 139) (v := ?_) (a' := ?_) (bm 9 5) rfl rfl (by kernel_rfl) (fun _ _ _ h => h) (Or.inl ⟨by rfl, ?_⟩) ?_ ?_
  rotate_left
  ·intro w'
   go_simp
   with_reducible rfl
  rotate_left
  ·simp only [Act.put, sA, sB, sC, Qk, Ql]
   rfl
  refine QE (i := 1) (N := some 138) (v := ?_) (a' := ?_) (bm 9 7) rfl rfl (by kernel_rfl) (fun _ _ _ h => h) (Or.inl ⟨by rfl, ?_⟩) hHeld ?_ ?_
  rotate_left
  ·rintro w' ⟨s0, s1⟩
   go_simp
   with_reducible rfl
  rotate_left
  ·simp only [Act.put, sA, sB, sC, Qk, Ql]
   rfl
  refine QE (i := 3) (N := some 140) (v := ?_) (a' := ?_) (bm 9 15) rfl rfl (by kernel_rfl) (fun _ _ _ h => h) (Or.inl ⟨by rfl, ?_⟩) hHeld ?_ ?_
  rotate_left
  ·rintro w' ⟨s0, s1⟩
   go_simp
   with_reducible rfl
  rotate_left
  ·simp only [Act.put, sA, sB, sC, Qk, Ql]
   rfl
  refine QQ (i := 4) (N := some 141) (bm 9 31) rfl rfl (by kernel_rfl) (by decide) (fun K hK => ?_)
  refine QI Tryd.func82 (by kernel_rfl) rfl #[.string f1] (by rfl) rfl rfl (by simp only [List.map_toArray, List.map_cons, List.map_nil]; rfl) ?_
  (with_reducible refine (QV f1 W9).mono ?_)
  rintro e w5 ⟨rfl, hbq5⟩
  refine ⟨_, rfl, ?_⟩
  have HB5 := Qe HB_ hbq5
  refine hK.out _ _ ⟨(Qa (Qc hXb.out HB5) 1).trans rfl, (Qa (Qc (Qc hbx.out hBr.out) HB5) 1).trans rfl⟩ (fun hHeld => ?_)
  clear hK K
  refine Qq (a' := ?_) ?_ ?_
  rotate_left
  ·show Act.put _ (some 141) _ = _
   simp only [Act.put, sA, sB, sC, Qk, Ql]
   rfl
  refine QQ (i := 5) (N := some 142) (bm 9 63) rfl rfl (by kernel_rfl) (by decide) (fun K hK => ?_)
  refine QM (w1 := ?_) (v := ?_) (by rfl) rfl ?_ ?_
  rotate_left 2
  ·go_simp
   constructor
   ·rfl
   ·rfl
  have HBb := Qd HB5 (.cells #[.string f1, .slice none 0 0, .int .i64 0] 109)
  refine hK.out _ _ ⟨(Qa (Qc hXb.out HBb) 1).trans rfl, (Qa (Qc (Qc hbx.out hBr.out) HBb) 1).trans rfl⟩ (fun hHeld => ?_)
  clear hK K
  refine Qq (a' := ?_) ?_ ?_
  rotate_left
  ·show Act.put _ (some 142) _ = _
   simp only [Act.put, sA, sB, sC, Qk, Ql]
   rfl
  refine Zw (i := 6) (N := some 143) (bm 9 127) rfl rfl (by kernel_rfl) (by decide) (fun K hK => ?_)
  refine ZX (w0 := w5) (xb + 1) (by rfl) (.tmp 138) (.tmp 142) rfl (A := none) (x0 := Option.none) (n := 0) (c := 0) (z := 0) (s1 := f1) (A1 := none) (n1 := 0) (c1 := 0) (z1 := 0) (q := W9.heap.size) rfl rfl (NR.below hrow.out HB5) (NL.nil _ _) (Nat.le_refl _) ?_ ?_ (fun y hy => by cases hy) (Below.refl _ _) ?_ ?_ ?_
  ·intro k hk; have h1 := NR.lt hrow.out k hk; have h2 := HB_.size; omega
  ·have h1 := hxs.out; have h2 := HB_.size; omega
  ·have h1 := hxs.out; have h2 := HB5.size; omega
  ·have h1 := hms.out; omega
  intro A6 c6 w6 hr6 hb6 hg6
  clear hg6
  have hx6 := (hb6.block xb (Nat.lt_succ_self _)).trans (Qc hXb.out HB5)
  have hcz := (Qa hx6 1).trans rfl
  have hfz := Qg hx6 1
  refine hK.out _ _ ?_
  clear hK K
  refine Qq (a' := ?_) ?_ ?_
  rotate_left
  ·show Act.put _ (some 143) _ = _
   simp only [Act.put, sA, sB, sC, Qk, Ql]
   rfl
  refine Q4 (i := 7) (N := some 144) (v := ?_) (a' := ?_) (bm 9 255) rfl rfl (by kernel_rfl) (fun _ _ _ h => h) (Or.inl ⟨by rfl, ?_⟩) ?_ ?_
  rotate_left
  ·intro w'
   go_simp
   with_reducible rfl
  rotate_left
  ·simp only [Act.put, sA, sB, sC, Qk, Ql]
   rfl
  refine Zw (i := 8) (N := none) (bm 9 511) rfl rfl (by kernel_rfl) (by decide) (fun K hK => ?_)
  refine Vk (w1 := ?_) (by rfl) rfl ?_ ?_
  rotate_left
  ·go_simp
   rfl
  refine hK.out _ _ ?_
  clear hK K
  refine Zx (by kernel_rfl) ?_
  obtain ⟨W7, hW7⟩ : ∃ W7, w6.setCell ⟨xb, 1, none⟩ (.slice A6 (0 + 1) c6) = W7 := ⟨_, rfl⟩
  have hX7 : Qb (W7.heap[xb]? = some (.cells #[.string ⟨#[]⟩, .slice A6 (0 + 1) c6, .int .i64 0] 109 (0, 0))) := ⟨by rw [← hW7]; exact QP hx6 1 _ rfl⟩
  have hr7 : Qb (NR W7 (xb + 1) none A6 (0 + 1) c6 (0 + ((f1 : ByteArray).size + 3 + 0))) := ⟨by rw [← hW7]; exact NR.far hr6 (.inl (Nat.lt_succ_self _)) _⟩
  have hB7 : Qb (Below W0.heap.size W0 W7) := ⟨by rw [← hW7]; exact ((hBr.out.trans (HB5.mono hBr.out.size)).trans (hb6.mono (by have h1 := hxs.out; omega))).setCell (p := ⟨xb, 1, none⟩) (by have h1 := hxs.out; show W0.heap.size ≤ xb; omega) _⟩
  have hs7 : Qb (xb + 1 ≤ W7.heap.size ∧ W0.heap.size ≤ xb) := ⟨by have h1 := (Array.getElem?_eq_some_iff.1 hX7.out).1; have h2 := hxs.out; omega⟩
  rw [hW7]
  clear hHeld hXb hrow hxs hBr hms hgr hXx hrX hsx hBx
  have k4 := (Qa (Qc hbx.out hB7.out) 4).trans rfl
  go_wp2
  have hXx := hX7
  have hrX := hr7
  have hBx := hB7
  have hsx := hs7
  clear hX7 hr7 hB7 hs7
  have hn4 := hn4.out
  go_loopg [8] (n4 + 1) (fun kq v8 w' => ∃ (i m c z : Nat) (A : Option Addr), v8 = .int .i64 (i : Int) ∧ i + kq = n4 + 1 ∧ 1 ≤ kq ∧ Qb (m ≤ i + 1) ∧ Qb (w'.heap[xb]? = some (.cells #[.string ⟨#[]⟩, .slice A m c, .int .i64 0] 109 (0, 0))) ∧ Qb (NR w' (xb + 1) none A m c z) ∧ Qb (z ≤ f1.size + 3 + eBL (l.take i)) ∧ Qb (Below W0.heap.size W0 w') ∧ Qb (xb + 1 ≤ w'.heap.size ∧ W0.heap.size ≤ xb))
  case atStart => exact ⟨0, 0 + 1, c6, _, A6, rfl, by omega, by omega, ⟨by omega⟩, hXx, hrX, ⟨by omega⟩, hBx, hsx⟩
  case round =>
   obtain ⟨i, m, c, z, A, rfl, hi, hk, hm, hX, hr, hz, hB, hs⟩ := hrel
   have hXb := hX
   have hrow := hr
   have hxs := hs
   have hBr := hB
   have hms : Qb (m ≤ 200000000000) := ⟨by have := hm.out; omega⟩
   have hgr := Qb.mk (GG.below hg0.out hBr.out)
   clear hX hr hs hB
   have k4 := (Qa (Qc hbx.out hBr.out) 4).trans rfl
   by_cases hlt : i < n4
   ·have hli : i < l.length := by omega
    have hxi : l[i]? = some l[i] := List.getElem?_eq_getElem hli
    have hx := hx _ (List.getElem_mem hli)
    generalize l[i] = x at hxi hx
    obtain ⟨ad, B3, d3, B4, d4, B5, d5, rfl, he, g3, g4, g5, _, _, _⟩ := elem33 (Kd.Qj hC.out hBr.out) i hxi
    have he := Qb.mk he
    have h3 := Qb.mk g3
    have h4 := Qb.mk g4
    have h5 := Qb.mk g5
    clear g3 g4 g5
    have p0 : (0 : Int) ≤ (i : Int) := by omega
    have p1 : (i : Int) < (n4 : Int) := by omega
    have q1 : decide ((i : Int) < (n4 : Int)) = true := decide_eq_true p1
    go_wp2
    have HB_ : Below wr.heap.size wr wr.drew := Qi (Below.refl _ _)
    have hg9 := Qb.mk (GG.below hgr.out HB_)
    refine QZ (n := 12) (S := fun w' => w'.cell? ⟨xb, 1, none⟩ = some (.slice A m c) ∧ w'.cell? ⟨w.heap.size, 4, none⟩ = some (.slice (some ad) n4 c4) ∧ w'.cell? (ad.add (i * 6)) = some (.int .i64 x.f0) ∧ w'.cell? ⟨((ad.add (i * 6))).block, ((ad.add (i * 6))).off + 1, none⟩ = some (.string x.f1) ∧ w'.cell? ⟨((ad.add (i * 6))).block, ((ad.add (i * 6))).off + 2, none⟩ = some (.int .i64 x.f2) ∧ w'.cell? ⟨((ad.add (i * 6))).block, ((ad.add (i * 6))).off + 3, none⟩ = some (.slice B3 x.f3.length d3) ∧ w'.cell? ⟨((ad.add (i * 6))).block, ((ad.add (i * 6))).off + 4, none⟩ = some (.slice B4 x.f4.length d4) ∧ w'.cell? ⟨((ad.add (i * 6))).block, ((ad.add (i * 6))).off + 5, none⟩ = some (.slice B5 x.f5.length d5)) (ds := [9, 11]) (bm 12 0) (by kernel_rfl) rfl rfl ⟨(Qa (Qc hXb.out HB_) 1).trans rfl, (Qa (Qc (Qc hbx.out hBr.out) HB_) 4).trans rfl, (he.out.below HB_).1, (he.out.below HB_).2.1, (he.out.below HB_).2.2.1, (he.out.below HB_).2.2.2.1, (he.out.below HB_).2.2.2.2.1, (he.out.below HB_).2.2.2.2.2⟩ (fun hHeld => ?_)
    generalize wr.drew = W9 at *
    refine Q4 (i := 0) (N := some 152) (v := ?_) (a' := ?_) (bm 12 1) rfl rfl (by kernel_rfl) (fun _ _ _ h => h) (Or.inl ⟨by rfl, ?_⟩) ?_ ?_
    rotate_left
    ·intro w'
     go_simp
     with_reducible rfl
    rotate_left
    ·simp only [Act.put, sA, sB, sC, Qk, Ql]
     rfl
    refine Q4 (i := 2) (N := some 154) (v := ?_) (a' := ?_) (bm 12 5) rfl rfl (by kernel_rfl) (fun _ _ _ h => h) (Or.inl ⟨by rfl, ?_⟩) ?_ ?_
    rotate_left
    ·intro w'
     go_simp
     with_reducible rfl
    rotate_left
    ·simp only [Act.put, sA, sB, sC, Qk, Ql]
     rfl
    refine Q4 (i := 4) (N := some 156) (v := ?_) (a' := ?_) (bm 12 21) rfl rfl (by kernel_rfl) (fun _ _ _ h => h) (Or.inl ⟨by rfl, ?_⟩) ?_ ?_
    rotate_left
    ·intro w'
     go_simp
     with_reducible rfl
    rotate_left
    ·simp only [Act.put, sA, sB, sC, Qk, Ql]
     rfl
    refine QE (i := 1) (N := some 153) (v := ?_) (a' := ?_) (bm 12 23) rfl rfl (by kernel_rfl) (fun _ _ _ h => h) (Or.inl ⟨by rfl, ?_⟩) hHeld ?_ ?_
    rotate_left
    ·rintro w' ⟨s0, s1, s2, s3, s4, s5, s6, s7⟩
     go_simp
     with_reducible rfl
    rotate_left
    ·simp only [Act.put, sA, sB, sC, Qk, Ql]
     rfl
    refine QE (i := 3) (N := some 155) (v := ?_) (a' := ?_) (bm 12 31) rfl rfl (by kernel_rfl) (fun _ _ _ h => h) (Or.inl ⟨by rfl, ?_⟩) hHeld ?_ ?_
    rotate_left
    ·rintro w' ⟨s0, s1, s2, s3, s4, s5, s6, s7⟩
     go_simp
     with_reducible rfl
    rotate_left
    ·simp only [Act.put, sA, sB, sC, Qk, Ql]
     rfl
    refine Q4 (i := 5) (N := some 157) (v := ?_) (a' := ?_) (bm 12 63) rfl rfl (by kernel_rfl) (fun _ _ _ h => h) (Or.inl ⟨by rfl, ?_⟩) ?_ ?_
    rotate_left
    ·intro w'
     go_simp
     with_reducible rfl
    rotate_left
    ·simp only [Act.put, sA, sB, sC, Qk, Ql]
     rfl
    refine QE (i := 6) (N := some 158) (v := ?_) (a' := ?_) (bm 12 127) rfl rfl (by kernel_rfl) (fun _ _ _ h => h) (Or.inl ⟨by rfl, ?_⟩) hHeld ?_ ?_
    rotate_left
    ·rintro w' ⟨s0, s1, s2, s3, s4, s5, s6, s7⟩
     go_simp
     with_reducible rfl
    rotate_left
    ·simp only [Act.put, sA, sB, sC, Qk, Ql]
     rfl
    refine QQ (i := 7) (N := some 159) (bm 12 255) rfl rfl (by kernel_rfl) (by decide) (fun K hK => ?_)
    refine QI Tryd.func86 (by kernel_rfl) rfl #[.agg #[.int .i64 x.f0, .string x.f1, .int .i64 x.f2, .slice B3 x.f3.length d3, .slice B4 x.f4.length d4, .slice B5 x.f5.length d5]] (by rfl) rfl rfl (by simp only [List.map_toArray, List.map_cons, List.map_nil]; rfl) ?_
    (with_reducible refine (hx.at W9 (GG.below hgr.out HB_) (Kd.Qj h3.out HB_) (Kd.Qj h4.out HB_) (Kd.Qj h5.out HB_)).mono ?_)
    rintro e w5 ⟨s5, A5', n5', c5', z5, rfl, hz5, hc5, hn5, hbq5⟩
    refine ⟨_, rfl, ?_⟩
    have hz5 := Qb.mk hz5
    have HB5 := Qe HB_ hbq5
    refine hK.out _ _ ⟨(Qa (Qc hXb.out HB5) 1).trans rfl, (Qa (Qc (Qc hbx.out hBr.out) HB5) 4).trans rfl, (he.out.below HB5).1, (he.out.below HB5).2.1, (he.out.below HB5).2.2.1, (he.out.below HB5).2.2.2.1, (he.out.below HB5).2.2.2.2.1, (he.out.below HB5).2.2.2.2.2⟩ (fun hHeld => ?_)
    clear hK K
    refine Qq (a' := ?_) ?_ ?_
    rotate_left
    ·show Act.put _ (some 159) _ = _
     simp only [Act.put, sA, sB, sC, Qk, Ql]
     rfl
    refine QQ (i := 8) (N := some 160) (bm 12 511) rfl rfl (by kernel_rfl) (by decide) (fun K hK => ?_)
    refine QM (w1 := ?_) (v := ?_) (by rfl) rfl ?_ ?_
    rotate_left 2
    ·go_simp
     constructor
     ·rfl
     ·rfl
    have HBb := Qd HB5 (.cells #[.string s5, .slice A5' n5' c5', .int .i64 0] 109)
    refine hK.out _ _ ⟨(Qa (Qc hXb.out HBb) 1).trans rfl, (Qa (Qc (Qc hbx.out hBr.out) HBb) 4).trans rfl, (he.out.below HBb).1, (he.out.below HBb).2.1, (he.out.below HBb).2.2.1, (he.out.below HBb).2.2.2.1, (he.out.below HBb).2.2.2.2.1, (he.out.below HBb).2.2.2.2.2⟩ (fun hHeld => ?_)
    clear hK K
    refine Qq (a' := ?_) ?_ ?_
    rotate_left
    ·show Act.put _ (some 160) _ = _
     simp only [Act.put, sA, sB, sC, Qk, Ql]
     rfl
    refine Zw (i := 9) (N := some 161) (bm 12 1023) rfl rfl (by kernel_rfl) (by decide) (fun K hK => ?_)
    refine ZX (w0 := w5) (xb + 1) (by rfl) (.tmp 153) (.tmp 160) rfl (A := A) (x0 := Option.none) (n := m) (c := c) (z := z) (s1 := s5) (A1 := A5') (n1 := n5') (c1 := c5') (z1 := z5) (q := W9.heap.size) rfl rfl (NR.below hrow.out HB5) hn5 hc5 ?_ ?_ (fun y hy => by cases hy) (Below.refl _ _) ?_ ?_ ?_
    ·intro k hk; have h1 := NR.lt hrow.out k hk; have h2 := HB_.size; omega
    ·have h1 := hxs.out; have h2 := HB_.size; omega
    ·have h1 := hxs.out; have h2 := HB5.size; omega
    ·have h1 := hms.out; omega
    intro A6 c6 w6 hr6 hb6 hg6
    clear hg6
    have hx6 := (hb6.block xb (Nat.lt_succ_self _)).trans (Qc hXb.out HB5)
    have hcz := (Qa hx6 1).trans rfl
    have hfz := Qg hx6 1
    refine hK.out _ _ ?_
    clear hK K
    refine Qq (a' := ?_) ?_ ?_
    rotate_left
    ·show Act.put _ (some 161) _ = _
     simp only [Act.put, sA, sB, sC, Qk, Ql]
     rfl
    refine Q4 (i := 10) (N := some 162) (v := ?_) (a' := ?_) (bm 12 2047) rfl rfl (by kernel_rfl) (fun _ _ _ h => h) (Or.inl ⟨by rfl, ?_⟩) ?_ ?_
    rotate_left
    ·intro w'
     go_simp
     with_reducible rfl
    rotate_left
    ·simp only [Act.put, sA, sB, sC, Qk, Ql]
     rfl
    refine Zw (i := 11) (N := none) (bm 12 4095) rfl rfl (by kernel_rfl) (by decide) (fun K hK => ?_)
    refine Vk (w1 := ?_) (by rfl) rfl ?_ ?_
    rotate_left
    ·go_simp
     rfl
    refine hK.out _ _ ?_
    clear hK K
    refine Zx (by kernel_rfl) ?_
    obtain ⟨W7, hW7⟩ : ∃ W7, w6.setCell ⟨xb, 1, none⟩ (.slice A6 (m + 1) c6) = W7 := ⟨_, rfl⟩
    have hX7 : Qb (W7.heap[xb]? = some (.cells #[.string ⟨#[]⟩, .slice A6 (m + 1) c6, .int .i64 0] 109 (0, 0))) := ⟨by rw [← hW7]; exact QP hx6 1 _ rfl⟩
    have hr7 : Qb (NR W7 (xb + 1) none A6 (m + 1) c6 (z + ((s5 : ByteArray).size + 3 + z5))) := ⟨by rw [← hW7]; exact NR.far hr6 (.inl (Nat.lt_succ_self _)) _⟩
    have hB7 : Qb (Below W0.heap.size W0 W7) := ⟨by rw [← hW7]; exact ((hBr.out.trans (HB5.mono hBr.out.size)).trans (hb6.mono (by have h1 := hxs.out; omega))).setCell (p := ⟨xb, 1, none⟩) (by have h1 := hxs.out; show W0.heap.size ≤ xb; omega) _⟩
    have hs7 : Qb (xb + 1 ≤ W7.heap.size ∧ W0.heap.size ≤ xb) := ⟨by have h1 := (Array.getElem?_eq_some_iff.1 hX7.out).1; have h2 := hxs.out; omega⟩
    rw [hW7]
    clear hHeld
    have hjn : Value.int .i64 (wrap64 ((i : Int) + 1)) = .int .i64 ((i + 1 : Nat) : Int) := by rw [show wrap64 ((i : Int) + 1) = (i : Int) + 1 by unfold wrap64; omega]; rfl
    have hi7 : i + 1 + (gk - 1) = n4 + 1 ∧ 1 ≤ gk - 1 ∧ gk - 1 < gk := by omega
    have hm7 : Qb (m + 1 ≤ i + 1 + 1) := ⟨by have := hm.out; omega⟩
    have hz7 : Qb (z + (s5.size + 3 + z5) ≤ f1.size + 3 + eBL (l.take (i + 1))) := ⟨by rw [eBL_take hxi]; have h1 := hz.out; have h2 := hz5.out; omega⟩
    clear q1 p0 p1
    go_wp2
    go_roundg (gk - 1)
    case measure => exact hi7.2.2
    case rel => exact ⟨i + 1, m + 1, c6, _, A6, by first | exact hjn | rfl, hi7.1, hi7.2.1, hm7, hX7, hr7, hz7, hB7, hs7⟩
   ·have q1 : decide ((i : Int) < (n4 : Int)) = false := decide_eq_false (by omega)
    have x0 := (Qa hXb.out 0).trans rfl
    have x1 := (Qa hXb.out 1).trans rfl
    have x2 := (Qa hXb.out 2).trans rfl
    have hr1 := Qc hrx.out hBr.out
    have j0 := (Qa hr1 0).trans rfl
    have j1 := (Qa hr1 1).trans rfl
    have j2 := (Qa hr1 2).trans rfl
    have z0 := Qg hr1 0
    have z1 := Qg hr1 1
    have z2 := Qg hr1 2
    have hl5 : Qb (w.heap.size + 1 < xb + 1 ∧ w.heap.size ≤ xb + 1) := ⟨by have h1 := hl1.out; have h2 := hxs.out; omega⟩
    go_wp2
    refine bodyPost_ret (v := .agg #[.string ⟨#[]⟩, .slice A m c, .int .i64 0]) (by simp [results, Tryd.results86, go_sem, *]) rfl ⟨_, A, _, c, z, rfl, by have h1 := hz.out; have h2 := eBL_le l i; rw [sz0]; omega, hrow.out.list.2, ?_, ?_⟩
    ·exact ((((hrow.out.list.1).far (p := ⟨w.heap.size + 1, 0, none⟩) (.inl hl5.out.1) _).far (p := ⟨w.heap.size + 1, 1, none⟩) (.inl hl5.out.1) _).far (p := ⟨w.heap.size + 1, 2, none⟩) (.inl hl5.out.1) _).list.mono hl5.out.2
    ·exact (((HB0.out.trans (hBr.out.mono HB0.out.size)).setCell (p := ⟨w.heap.size + 1, 0, none⟩) (Nat.le_succ _) _).setCell (p := ⟨w.heap.size + 1, 1, none⟩) (Nat.le_succ _) _).setCell (p := ⟨w.heap.size + 1, 2, none⟩) (Nat.le_succ _) _
set_option maxHeartbeats 8000000 in
set_option maxRecDepth 100000 in
theorem exprNode_let (f1 : ByteArray) (f2 : Int) (w : World) (hg : GG w) {A3 A4 A5 : Option Addr} {n3 c3 n4 c4 n5 c5 : Nat} (ns : List ByteArray) (hns : ns.length = n3) (hn3 : n3 ≤ 100000000000) (hC3 : Kd.string.C w A3 n3 ns) (l : List S29) (hx : ∀ x ∈ l, XN x) (hll : l.length = n3 + 1) (hC4 : k29.C w A4 n4 l) :
  Calls Tryd.prog 86 #[.agg #[.int .i64 7, .string f1, .int .i64 f2, .slice A3 n3 c3, .slice A4 n4 c4, .slice A5 n5 c5]] w (ND (nmz ns + 100 + eBL l) w) := by
 have E : ∀ W : World, ∀ o : Obj, (W.alloc o).heap.size = W.heap.size + 1 := fun W o => Array.size_push _
 obtain ⟨W0, hW0⟩ : ∃ W0, (w.alloc (.cells #[.int .i64 7, .string f1, .int .i64 f2, .slice A3 n3 c3, .slice A4 n4 c4, .slice A5 n5 c5] 29)).alloc (.cells #[.string ⟨#[]⟩, .slice none 0 0, .int .i64 0] 109) = W0 := ⟨_, rfl⟩
 have HB0 : Qb (Below w.heap.size w W0) := ⟨by rw [← hW0]; exact Qd (Qd (Below.refl _ _) _) _⟩
 have hbx : Qb (W0.heap[w.heap.size]? = some (.cells #[.int .i64 7, .string f1, .int .i64 f2, .slice A3 n3 c3, .slice A4 n4 c4, .slice A5 n5 c5] 29 (0, 0))) := ⟨by rw [← hW0]; exact (Below.heap_alloc _ _ _ (by rw [E]; omega)).trans (Qv w _)⟩
 have hrx : Qb (W0.heap[w.heap.size + 1]? = some (.cells #[.string ⟨#[]⟩, .slice none 0 0, .int .i64 0] 109 (0, 0))) := ⟨by rw [← hW0, ← E w]; exact Qv _ _⟩
 have hl1 : Qb (W0.heap.size = w.heap.size + 2) := ⟨by rw [← hW0, E, E]⟩
 have hg0 := Qb.mk (GG.below hg HB0.out)
 have hC := Qb.mk (Kd.Qj hC4 HB0.out)
 have hCn := Qb.mk (Kd.Qj hC3 HB0.out)
 have hn4 : Qb (l.length = n4 ∧ n4 = n3 + 1 ∧ ns.length = n3) := ⟨by have := hC4.1; omega⟩
 clear hC4 hC3 hns hll
 have k0 := (Qa hbx.out 0).trans rfl
 have k1 := (Qa hbx.out 1).trans rfl
 have k2 := (Qa hbx.out 2).trans rfl
 have k3 := (Qa hbx.out 3).trans rfl
 have k4 := (Qa hbx.out 4).trans rfl
 have k5 := (Qa hbx.out 5).trans rfl
 go_enter Tryd.func86, Tryd.ntmps86
 go_wp2_with (first | (go_at_call 81; (try rw [hW0]); go_loud (with_reducible refine (Z7 none 0 0 W0).mono ?_); rintro r w2 ⟨rfl, hb2⟩; have HB2 := Qb.mk hb2; clear hb2 k0 k1 k2 k3 k4 k5))
 obtain ⟨xb, hxb⟩ : ∃ xb, w2.heap.size = xb := ⟨_, rfl⟩
 obtain ⟨Wx, hWx⟩ : ∃ Wx, w2.alloc (.cells #[.string ⟨#[]⟩, .slice none 0 0, .int .i64 0] 109) = Wx := ⟨_, rfl⟩
 have hBx : Qb (Below W0.heap.size W0 Wx) := ⟨by rw [← hWx]; exact Qd HB2.out _⟩
 have hXx : Qb (Wx.heap[xb]? = some (.cells #[.string ⟨#[]⟩, .slice none 0 0, .int .i64 0] 109 (0, 0))) := ⟨by rw [← hWx, ← hxb]; exact Qv _ _⟩
 have hsx : Qb (xb + 1 ≤ Wx.heap.size ∧ W0.heap.size ≤ xb) := ⟨by have := HB2.out.size; rw [← hWx, E]; omega⟩
 have hrX : Qb (NR Wx (xb + 1) none none 0 0 0) := ⟨NR.nil _ _ _⟩
 rw [hxb, hWx]
 clear hWx hxb HB2 hW0
 go_loopg [4] (n3 + 1) (fun kq v4 w' => ∃ (i m c z : Nat) (A : Option Addr), v4 = .int .i64 (i : Int) ∧ i + kq = n3 + 1 ∧ 1 ≤ kq ∧ Qb (m ≤ i + 1) ∧ Qb (w'.heap[xb]? = some (.cells #[.string ⟨#[]⟩, .slice A m c, .int .i64 0] 109 (0, 0))) ∧ Qb (NR w' (xb + 1) none A m c z) ∧ Qb (z ≤ nmz (ns.take i) + eBL (l.take i)) ∧ Qb (Below W0.heap.size W0 w') ∧ Qb (xb + 1 ≤ w'.heap.size ∧ W0.heap.size ≤ xb))
 case atStart => exact ⟨0, 0, 0, 0, none, rfl, by omega, by omega, ⟨by omega⟩, hXx, hrX, ⟨by omega⟩, hBx, hsx⟩
 case round =>
  obtain ⟨i, m, c, z, A, rfl, hi, hk, hm, hX, hr, hz, hB, hs⟩ := hrel
  have hXb := hX
  have hrow := hr
  have hxs := hs
  have hBr := hB
  have hms : Qb (m ≤ 200000000000) := ⟨by have := hm.out; omega⟩
  have hgr := Qb.mk (GG.below hg0.out hBr.out)
  clear hX hr hs hB hXx hrX hBx hsx
  have k3 := (Qa (Qc hbx.out hBr.out) 3).trans rfl
  by_cases hlt : i < n3
  ·have hli : i < l.length := by have := hn4.out; omega
   have hxi : l[i]? = some l[i] := List.getElem?_eq_getElem hli
   have hx := hx _ (List.getElem_mem hli)
   generalize l[i] = x at hxi hx
   obtain ⟨ad, B3, d3, B4, d4, B5, d5, rfl, he, g3, g4, g5, _, _, _⟩ := elem33 (Kd.Qj hC.out hBr.out) i hxi
   have he := Qb.mk he
   have h3 := Qb.mk g3
   have h4 := Qb.mk g4
   have h5 := Qb.mk g5
   clear g3 g4 g5
   obtain ⟨ad3, rfl, hsn⟩ := at_str (Kd.Qj hCn.out hBr.out) i (by have := hn4.out; omega) hlt
   have hni : ns[i]? = some (ns[i]'(by have := hn4.out; omega)) := List.getElem?_eq_getElem _
   generalize ns[i]'(by have := hn4.out; omega) = sn at hsn hni
   have hsn := Qb.mk hsn
   have p0 : (0 : Int) ≤ (i : Int) := by omega
   have p1 : (i : Int) < (n3 : Int) := by omega
   have p2 : (i : Int) < (n4 : Int) := by have := hn4.out; omega
   have q1 : decide ((i : Int) < (n3 : Int)) = true := decide_eq_true p1
   go_wp2
   have HB_ : Below wr.heap.size wr wr.drew := Qi (Below.refl _ _)
   have hg9 := Qb.mk (GG.below hgr.out HB_)
   refine QZ (n := 20) (S := fun w' => w'.cell? ⟨xb, 1, none⟩ = some (.slice A m c) ∧ w'.cell? ⟨w.heap.size, 3, none⟩ = some (.slice (some ad3) n3 c3) ∧ w'.cell? ⟨w.heap.size, 4, none⟩ = some (.slice (some ad) n4 c4) ∧ w'.cell? (ad3.add i) = some (.string sn) ∧ w'.cell? (ad.add (i * 6)) = some (.int .i64 x.f0) ∧ w'.cell? ⟨((ad.add (i * 6))).block, ((ad.add (i * 6))).off + 1, none⟩ = some (.string x.f1) ∧ w'.cell? ⟨((ad.add (i * 6))).block, ((ad.add (i * 6))).off + 2, none⟩ = some (.int .i64 x.f2) ∧ w'.cell? ⟨((ad.add (i * 6))).block, ((ad.add (i * 6))).off + 3, none⟩ = some (.slice B3 x.f3.length d3) ∧ w'.cell? ⟨((ad.add (i * 6))).block, ((ad.add (i * 6))).off + 4, none⟩ = some (.slice B4 x.f4.length d4) ∧ w'.cell? ⟨((ad.add (i * 6))).block, ((ad.add (i * 6))).off + 5, none⟩ = some (.slice B5 x.f5.length d5)) (ds := [17, 19]) (bm 20 0) (by kernel_rfl) rfl rfl ⟨(Qa (Qc hXb.out HB_) 1).trans rfl, (Qa (Qc (Qc hbx.out hBr.out) HB_) 3).trans rfl, (Qa (Qc (Qc hbx.out hBr.out) HB_) 4).trans rfl, (HB_.cell (World.block_lt_of_cell? _ _ hsn.out)).trans hsn.out, (he.out.below HB_).1, (he.out.below HB_).2.1, (he.out.below HB_).2.2.1, (he.out.below HB_).2.2.2.1, (he.out.below HB_).2.2.2.2.1, (he.out.below HB_).2.2.2.2.2⟩ (fun hHeld => ?_)
   generalize wr.drew = W9 at *
   refine Q4 (i := 0) (N := some 48) (v := ?_) (a' := ?_) (bm 20 1) rfl rfl (by kernel_rfl) (fun _ _ _ h => h) (Or.inl ⟨by rfl, ?_⟩) ?_ ?_
   rotate_left
   ·intro w'
    go_simp
    with_reducible rfl
   rotate_left
   ·simp only [Act.put, sA, sB, sC, Qk, Ql]
    rfl
   refine Q4 (i := 2) (N := some 50) (v := ?_) (a' := ?_) (bm 20 5) rfl rfl (by kernel_rfl) (fun _ _ _ h => h) (Or.inl ⟨by rfl, ?_⟩) ?_ ?_
   rotate_left
   ·intro w'
    go_simp
    with_reducible rfl
   rotate_left
   ·simp only [Act.put, sA, sB, sC, Qk, Ql]
    rfl
   refine Q4 (i := 4) (N := some 52) (v := ?_) (a' := ?_) (bm 20 21) rfl rfl (by kernel_rfl) (fun _ _ _ h => h) (Or.inl ⟨by rfl, ?_⟩) ?_ ?_
   rotate_left
   ·intro w'
    go_simp
    with_reducible rfl
   rotate_left
   ·simp only [Act.put, sA, sB, sC, Qk, Ql]
    rfl
   refine Q4 (i := 8) (N := some 56) (v := ?_) (a' := ?_) (bm 20 277) rfl rfl (by kernel_rfl) (fun _ _ _ h => h) (Or.inl ⟨by rfl, ?_⟩) ?_ ?_
   rotate_left
   ·intro w'
    go_simp
    with_reducible rfl
   rotate_left
   ·simp only [Act.put, sA, sB, sC, Qk, Ql]
    rfl
   refine Q4 (i := 10) (N := some 58) (v := ?_) (a' := ?_) (bm 20 1301) rfl rfl (by kernel_rfl) (fun _ _ _ h => h) (Or.inl ⟨by rfl, ?_⟩) ?_ ?_
   rotate_left
   ·intro w'
    go_simp
    with_reducible rfl
   rotate_left
   ·simp only [Act.put, sA, sB, sC, Qk, Ql]
    rfl
   refine QE (i := 1) (N := some 49) (v := ?_) (a' := ?_) (bm 20 1303) rfl rfl (by kernel_rfl) (fun _ _ _ h => h) (Or.inl ⟨by rfl, ?_⟩) hHeld ?_ ?_
   rotate_left
   ·rintro w' ⟨s0, s1, s2, s3, s4, s5, s6, s7, s8, s9⟩
    go_simp
    with_reducible rfl
   rotate_left
   ·simp only [Act.put, sA, sB, sC, Qk, Ql]
    rfl
   refine QE (i := 3) (N := some 51) (v := ?_) (a' := ?_) (bm 20 1311) rfl rfl (by kernel_rfl) (fun _ _ _ h => h) (Or.inl ⟨by rfl, ?_⟩) hHeld ?_ ?_
   rotate_left
   ·rintro w' ⟨s0, s1, s2, s3, s4, s5, s6, s7, s8, s9⟩
    go_simp
    with_reducible rfl
   rotate_left
   ·simp only [Act.put, sA, sB, sC, Qk, Ql]
    rfl
   refine Q4 (i := 5) (N := some 53) (v := ?_) (a' := ?_) (bm 20 1343) rfl rfl (by kernel_rfl) (fun _ _ _ h => h) (Or.inl ⟨by rfl, ?_⟩) ?_ ?_
   rotate_left
   ·intro w'
    go_simp
    with_reducible rfl
   rotate_left
   ·simp only [Act.put, sA, sB, sC, Qk, Ql]
    rfl
   refine QE (i := 6) (N := some 54) (v := ?_) (a' := ?_) (bm 20 1407) rfl rfl (by kernel_rfl) (fun _ _ _ h => h) (Or.inl ⟨by rfl, ?_⟩) hHeld ?_ ?_
   rotate_left
   ·rintro w' ⟨s0, s1, s2, s3, s4, s5, s6, s7, s8, s9⟩
    go_simp
    with_reducible rfl
   rotate_left
   ·simp only [Act.put, sA, sB, sC, Qk, Ql]
    rfl
   refine QE (i := 9) (N := some 57) (v := ?_) (a' := ?_) (bm 20 1919) rfl rfl (by kernel_rfl) (fun _ _ _ h => h) (Or.inl ⟨by rfl, ?_⟩) hHeld ?_ ?_
   rotate_left
   ·rintro w' ⟨s0, s1, s2, s3, s4, s5, s6, s7, s8, s9⟩
    go_simp
    with_reducible rfl
   rotate_left
   ·simp only [Act.put, sA, sB, sC, Qk, Ql]
    rfl
   refine Q4 (i := 11) (N := some 59) (v := ?_) (a' := ?_) (bm 20 3967) rfl rfl (by kernel_rfl) (fun _ _ _ h => h) (Or.inl ⟨by rfl, ?_⟩) ?_ ?_
   rotate_left
   ·intro w'
    go_simp
    with_reducible rfl
   rotate_left
   ·simp only [Act.put, sA, sB, sC, Qk, Ql]
    rfl
   refine QE (i := 12) (N := some 60) (v := ?_) (a' := ?_) (bm 20 8063) rfl rfl (by kernel_rfl) (fun _ _ _ h => h) (Or.inl ⟨by rfl, ?_⟩) hHeld ?_ ?_
   rotate_left
   ·rintro w' ⟨s0, s1, s2, s3, s4, s5, s6, s7, s8, s9⟩
    go_simp
    with_reducible rfl
   rotate_left
   ·simp only [Act.put, sA, sB, sC, Qk, Ql]
    rfl
   refine QQ (i := 7) (N := some 55) (bm 20 8191) rfl rfl (by kernel_rfl) (by decide) (fun K hK => ?_)
   refine QI Tryd.func82 (by kernel_rfl) rfl #[.string sn] (by rfl) rfl rfl (by simp only [List.map_toArray, List.map_cons, List.map_nil]; rfl) ?_
   (with_reducible refine (QV sn W9).mono ?_)
   rintro e w4 ⟨rfl, hbq4⟩
   refine ⟨_, rfl, ?_⟩
   have HB4 := Qe HB_ hbq4
   refine hK.out _ _ ⟨(Qa (Qc hXb.out HB4) 1).trans rfl, (Qa (Qc (Qc hbx.out hBr.out) HB4) 3).trans rfl, (Qa (Qc (Qc hbx.out hBr.out) HB4) 4).trans rfl, (HB4.cell (World.block_lt_of_cell? _ _ hsn.out)).trans hsn.out, (he.out.below HB4).1, (he.out.below HB4).2.1, (he.out.below HB4).2.2.1, (he.out.below HB4).2.2.2.1, (he.out.below HB4).2.2.2.2.1, (he.out.below HB4).2.2.2.2.2⟩ (fun hHeld => ?_)
   clear hK K
   refine Qq (a' := ?_) ?_ ?_
   rotate_left
   ·show Act.put _ (some 55) _ = _
    simp only [Act.put, sA, sB, sC, Qk, Ql]
    rfl
   refine QQ (i := 13) (N := some 61) (bm 20 16383) rfl rfl (by kernel_rfl) (by decide) (fun K hK => ?_)
   refine QI Tryd.func86 (by kernel_rfl) rfl #[.agg #[.int .i64 x.f0, .string x.f1, .int .i64 x.f2, .slice B3 x.f3.length d3, .slice B4 x.f4.length d4, .slice B5 x.f5.length d5]] (by rfl) rfl rfl (by simp only [List.map_toArray, List.map_cons, List.map_nil]; rfl) ?_
   (with_reducible refine (hx.at w4 (GG.below hgr.out HB4) (Kd.Qj h3.out HB4) (Kd.Qj h4.out HB4) (Kd.Qj h5.out HB4)).mono ?_)
   rintro e w5 ⟨s5, A5', n5', c5', z5, rfl, hz5, hc5, hn5, hbq5⟩
   refine ⟨_, rfl, ?_⟩
   have hz5 := Qb.mk hz5
   have HB5 := Qe HB4 hbq5
   refine hK.out _ _ ⟨(Qa (Qc hXb.out HB5) 1).trans rfl, (Qa (Qc (Qc hbx.out hBr.out) HB5) 3).trans rfl, (Qa (Qc (Qc hbx.out hBr.out) HB5) 4).trans rfl, (HB5.cell (World.block_lt_of_cell? _ _ hsn.out)).trans hsn.out, (he.out.below HB5).1, (he.out.below HB5).2.1, (he.out.below HB5).2.2.1, (he.out.below HB5).2.2.2.1, (he.out.below HB5).2.2.2.2.1, (he.out.below HB5).2.2.2.2.2⟩ (fun hHeld => ?_)
   clear hK K
   refine Qq (a' := ?_) ?_ ?_
   rotate_left
   ·show Act.put _ (some 61) _ = _
    simp only [Act.put, sA, sB, sC, Qk, Ql]
    rfl
   refine QQ (i := 14) (N := some 62) (bm 20 32767) rfl rfl (by kernel_rfl) (by decide) (fun K hK => ?_)
   refine QM (w1 := ?_) (v := ?_) (by rfl) rfl ?_ ?_
   rotate_left 2
   ·go_simp
    constructor
    ·rfl
    ·rfl
   have HB6 := Qd HB5 (.cells #[.string sn, .slice none 0 0, .int .i64 0, .string s5, .slice A5' n5' c5', .int .i64 0] 109)
   have hbk := Qv w5 (.cells #[.string sn, .slice none 0 0, .int .i64 0, .string s5, .slice A5' n5' c5', .int .i64 0] 109 (0, 0))
   refine hK.out _ _ ⟨(Qa (Qc hXb.out HB6) 1).trans rfl, (Qa (Qc (Qc hbx.out hBr.out) HB6) 3).trans rfl, (Qa (Qc (Qc hbx.out hBr.out) HB6) 4).trans rfl, (HB6.cell (World.block_lt_of_cell? _ _ hsn.out)).trans hsn.out, (he.out.below HB6).1, (he.out.below HB6).2.1, (he.out.below HB6).2.2.1, (he.out.below HB6).2.2.2.1, (he.out.below HB6).2.2.2.2.1, (he.out.below HB6).2.2.2.2.2⟩ (fun hHeld => ?_)
   clear hK K
   refine Qq (a' := ?_) ?_ ?_
   rotate_left
   ·show Act.put _ (some 62) _ = _
    simp only [Act.put, sA, sB, sC, Qk, Ql]
    rfl
   refine QQ (i := 15) (N := some 63) (bm 20 65535) rfl rfl (by kernel_rfl) (by decide) (fun K hK => ?_)
   refine QI Tryd.func81 (by kernel_rfl) rfl #[.slice (some ⟨w5.heap.size, 0, none⟩) 2 2] (by rfl) rfl rfl (by simp only [List.map_toArray, List.map_cons, List.map_nil]; rfl) ?_
   (with_reducible refine (Z7 _ _ _ _).mono ?_)
   rintro e w7 ⟨rfl, hbq7⟩
   refine ⟨_, rfl, ?_⟩
   have HB7 := Qe HB6 hbq7
   have hn7 : NL w7 W9.heap.size (some ⟨w5.heap.size, 0, none⟩) 2 (sn.size + 3 + 0 + (s5.size + 3 + z5)) := NL.two (Qc hbk hbq7) (Nat.le_trans hbq4.size hbq5.size) (NL.nil _ _) (Nat.le_refl _) (((hn5.mono hbq4.size).below (Qd (Below.refl _ _) _)).below hbq7) hc5
   refine hK.out _ _ ⟨(Qa (Qc hXb.out HB7) 1).trans rfl, (Qa (Qc (Qc hbx.out hBr.out) HB7) 3).trans rfl, (Qa (Qc (Qc hbx.out hBr.out) HB7) 4).trans rfl, (HB7.cell (World.block_lt_of_cell? _ _ hsn.out)).trans hsn.out, (he.out.below HB7).1, (he.out.below HB7).2.1, (he.out.below HB7).2.2.1, (he.out.below HB7).2.2.2.1, (he.out.below HB7).2.2.2.2.1, (he.out.below HB7).2.2.2.2.2⟩ (fun hHeld => ?_)
   clear hK K
   refine Qq (a' := ?_) ?_ ?_
   rotate_left
   ·show Act.put _ (some 63) _ = _
    simp only [Act.put, sA, sB, sC, Qk, Ql]
    rfl
   refine QQ (i := 16) (N := some 64) (bm 20 131071) rfl rfl (by kernel_rfl) (by decide) (fun K hK => ?_)
   refine QM (w1 := ?_) (v := ?_) (by rfl) rfl ?_ ?_
   rotate_left 2
   ·go_simp
    constructor
    ·rfl
    ·rfl
   have HBb := Qd HB7 (.cells #[.string ⟨#[]⟩, .slice (some ⟨w5.heap.size, 0, none⟩) 2 2, .int .i64 0] 109)
   refine hK.out _ _ ⟨(Qa (Qc hXb.out HBb) 1).trans rfl, (Qa (Qc (Qc hbx.out hBr.out) HBb) 3).trans rfl, (Qa (Qc (Qc hbx.out hBr.out) HBb) 4).trans rfl, (HBb.cell (World.block_lt_of_cell? _ _ hsn.out)).trans hsn.out, (he.out.below HBb).1, (he.out.below HBb).2.1, (he.out.below HBb).2.2.1, (he.out.below HBb).2.2.2.1, (he.out.below HBb).2.2.2.2.1, (he.out.below HBb).2.2.2.2.2⟩ (fun hHeld => ?_)
   clear hK K
   refine Qq (a' := ?_) ?_ ?_
   rotate_left
   ·show Act.put _ (some 64) _ = _
    simp only [Act.put, sA, sB, sC, Qk, Ql]
    rfl
   refine Zw (i := 17) (N := some 65) (bm 20 262143) rfl rfl (by kernel_rfl) (by decide) (fun K hK => ?_)
   refine ZX (w0 := w7) (xb + 1) (by rfl) (.tmp 49) (.tmp 64) rfl (A := A) (x0 := Option.none) (n := m) (c := c) (z := z) (s1 := ⟨#[]⟩) (A1 := (some ⟨w5.heap.size, 0, none⟩)) (n1 := 2) (c1 := 2) (z1 := (sn.size + 3 + 0 + (s5.size + 3 + z5))) (q := W9.heap.size) rfl rfl (NR.below hrow.out HB7) hn7 (Nat.le_refl _) ?_ ?_ (fun y hy => by cases hy) (Below.refl _ _) ?_ ?_ ?_
   ·intro k hk; have h1 := NR.lt hrow.out k hk; have h2 := HB_.size; omega
   ·have h1 := hxs.out; have h2 := HB_.size; omega
   ·have h1 := hxs.out; have h2 := HB7.size; omega
   ·have h1 := hms.out; omega
   intro A6 c6 w6 hr6 hb6 hg6
   clear hg6
   have hx6 := (hb6.block xb (Nat.lt_succ_self _)).trans (Qc hXb.out HB7)
   have hcz := (Qa hx6 1).trans rfl
   have hfz := Qg hx6 1
   refine hK.out _ _ ?_
   clear hK K
   refine Qq (a' := ?_) ?_ ?_
   rotate_left
   ·show Act.put _ (some 65) _ = _
    simp only [Act.put, sA, sB, sC, Qk, Ql]
    rfl
   refine Q4 (i := 18) (N := some 66) (v := ?_) (a' := ?_) (bm 20 524287) rfl rfl (by kernel_rfl) (fun _ _ _ h => h) (Or.inl ⟨by rfl, ?_⟩) ?_ ?_
   rotate_left
   ·intro w'
    go_simp
    with_reducible rfl
   rotate_left
   ·simp only [Act.put, sA, sB, sC, Qk, Ql]
    rfl
   refine Zw (i := 19) (N := none) (bm 20 1048575) rfl rfl (by kernel_rfl) (by decide) (fun K hK => ?_)
   refine Vk (w1 := ?_) (by rfl) rfl ?_ ?_
   rotate_left
   ·go_simp
    rfl
   refine hK.out _ _ ?_
   clear hK K
   refine Zx (by kernel_rfl) ?_
   obtain ⟨W7, hW7⟩ : ∃ W7, w6.setCell ⟨xb, 1, none⟩ (.slice A6 (m + 1) c6) = W7 := ⟨_, rfl⟩
   have hX7 : Qb (W7.heap[xb]? = some (.cells #[.string ⟨#[]⟩, .slice A6 (m + 1) c6, .int .i64 0] 109 (0, 0))) := ⟨by rw [← hW7]; exact QP hx6 1 _ rfl⟩
   have hr7 : Qb (NR W7 (xb + 1) none A6 (m + 1) c6 (z + ((⟨#[]⟩ : ByteArray).size + 3 + (sn.size + 3 + 0 + (s5.size + 3 + z5))))) := ⟨by rw [← hW7]; exact NR.far hr6 (.inl (Nat.lt_succ_self _)) _⟩
   have hB7 : Qb (Below W0.heap.size W0 W7) := ⟨by rw [← hW7]; exact ((hBr.out.trans (HB7.mono hBr.out.size)).trans (hb6.mono (by have h1 := hxs.out; omega))).setCell (p := ⟨xb, 1, none⟩) (by have h1 := hxs.out; show W0.heap.size ≤ xb; omega) _⟩
   have hs7 : Qb (xb + 1 ≤ W7.heap.size ∧ W0.heap.size ≤ xb) := ⟨by have h1 := (Array.getElem?_eq_some_iff.1 hX7.out).1; have h2 := hxs.out; omega⟩
   rw [hW7]
   clear hHeld
   have hjn : Value.int .i64 (wrap64 ((i : Int) + 1)) = .int .i64 ((i + 1 : Nat) : Int) := by rw [show wrap64 ((i : Int) + 1) = (i : Int) + 1 by unfold wrap64; omega]; rfl
   have hi7 : i + 1 + (gk - 1) = n3 + 1 ∧ 1 ≤ gk - 1 ∧ gk - 1 < gk := by omega
   have hm7 : Qb (m + 1 ≤ i + 1 + 1) := ⟨by have := hm.out; omega⟩
   have hz7 : Qb (z + ((⟨#[]⟩ : ByteArray).size + 3 + (sn.size + 3 + 0 + (s5.size + 3 + z5))) ≤ nmz (ns.take (i + 1)) + eBL (l.take (i + 1))) := ⟨by rw [eBL_take hxi, nmz_take hni]; have h1 := hz.out; have h2 := hz5.out; have h3 := sz0; omega⟩
   clear q1 p0 p1 p2
   go_wp2
   go_roundg (gk - 1)
   case measure => exact hi7.2.2
   case rel => exact ⟨i + 1, m + 1, c6, _, A6, by first | exact hjn | rfl, hi7.1, hi7.2.1, hm7, hX7, hr7, hz7, hB7, hs7⟩
  ·have q1 : decide ((i : Int) < (n3 : Int)) = false := decide_eq_false (by omega)
   have hz : Qb (z ≤ nmz (ns.take n3) + eBL (l.take n3)) := ⟨by have h := hz.out; rwa [show i = n3 by omega] at h⟩
   have hxi : l[n3]? = some (l[n3]'(by have := hn4.out; omega)) := List.getElem?_eq_getElem (by have := hn4.out; omega)
   have hx := hx _ (List.getElem_mem (show n3 < l.length by have := hn4.out; omega))
   generalize l[n3]'(by have := hn4.out; omega) = x at hxi hx
   obtain ⟨ad, B3, d3, B4, d4, B5, d5, rfl, he, g3, g4, g5, _, _, _⟩ := elem33 (Kd.Qj hC.out hBr.out) n3 hxi
   have he := Qb.mk he
   have h3 := Qb.mk g3
   have h4 := Qb.mk g4
   have h5 := Qb.mk g5
   clear g3 g4 g5
   have hix : wrap64 ((n4 : Int) - 1) = (n3 : Int) := by have := hn4.out; unfold wrap64; omega
   have p2 : (n3 : Int) < (n4 : Int) := by have := hn4.out; omega
   have p0 : (0 : Int) ≤ (n3 : Int) := by omega
   have hl5 : Qb (w.heap.size + 1 < W0.heap.size) := ⟨by have := hl1.out; omega⟩
   go_wp2
   have HB_ : Below wr.heap.size wr wr.drew := Qi (Below.refl _ _)
   refine QZ (n := 14) (S := fun w' => w'.cell? ⟨xb, 0, none⟩ = some (.string ⟨#[]⟩) ∧ w'.cell? ⟨xb, 1, none⟩ = some (.slice A m c) ∧ w'.cell? ⟨xb, 2, none⟩ = some (.int .i64 0) ∧ w'.cell? ⟨w.heap.size, 4, none⟩ = some (.slice (some ad) n4 c4) ∧ w'.cell? (ad.add (n3 * 6)) = some (.int .i64 x.f0) ∧ w'.cell? ⟨((ad.add (n3 * 6))).block, ((ad.add (n3 * 6))).off + 1, none⟩ = some (.string x.f1) ∧ w'.cell? ⟨((ad.add (n3 * 6))).block, ((ad.add (n3 * 6))).off + 2, none⟩ = some (.int .i64 x.f2) ∧ w'.cell? ⟨((ad.add (n3 * 6))).block, ((ad.add (n3 * 6))).off + 3, none⟩ = some (.slice B3 x.f3.length d3) ∧ w'.cell? ⟨((ad.add (n3 * 6))).block, ((ad.add (n3 * 6))).off + 4, none⟩ = some (.slice B4 x.f4.length d4) ∧ w'.cell? ⟨((ad.add (n3 * 6))).block, ((ad.add (n3 * 6))).off + 5, none⟩ = some (.slice B5 x.f5.length d5)) (ds := [13]) (bm 14 0) (by kernel_rfl) rfl rfl ⟨(Qa (Qc hXb.out HB_) 0).trans rfl, (Qa (Qc hXb.out HB_) 1).trans rfl, (Qa (Qc hXb.out HB_) 2).trans rfl, (Qa (Qc (Qc hbx.out hBr.out) HB_) 4).trans rfl, (he.out.below HB_).1, (he.out.below HB_).2.1, (he.out.below HB_).2.2.1, (he.out.below HB_).2.2.2.1, (he.out.below HB_).2.2.2.2.1, (he.out.below HB_).2.2.2.2.2⟩ (fun hHeld => ?_)
   generalize wr.drew = W9 at *
   refine Q4 (i := 2) (N := some 69) (v := ?_) (a' := ?_) (bm 14 4) rfl rfl (by kernel_rfl) (fun _ _ _ h => h) (Or.inl ⟨by rfl, ?_⟩) ?_ ?_
   rotate_left
   ·intro w'
    go_simp
    with_reducible rfl
   rotate_left
   ·simp only [Act.put, sA, sB, sC, Qk, Ql]
    rfl
   refine Q4 (i := 4) (N := some 71) (v := ?_) (a' := ?_) (bm 14 20) rfl rfl (by kernel_rfl) (fun _ _ _ h => h) (Or.inl ⟨by rfl, ?_⟩) ?_ ?_
   rotate_left
   ·intro w'
    go_simp
    with_reducible rfl
   rotate_left
   ·simp only [Act.put, sA, sB, sC, Qk, Ql]
    rfl
   refine QE (i := 1) (N := some 68) (v := ?_) (a' := ?_) (bm 14 22) rfl rfl (by kernel_rfl) (fun _ _ _ h => h) (Or.inl ⟨by rfl, ?_⟩) hHeld ?_ ?_
   rotate_left
   ·rintro w' ⟨s0, s1, s2, s3, s4, s5, s6, s7, s8, s9⟩
    go_simp
    with_reducible rfl
   rotate_left
   ·simp only [Act.put, sA, sB, sC, Qk, Ql]
    rfl
   refine QE (i := 3) (N := some 70) (v := ?_) (a' := ?_) (bm 14 30) rfl rfl (by kernel_rfl) (fun _ _ _ h => h) (Or.inl ⟨by rfl, ?_⟩) hHeld ?_ ?_
   rotate_left
   ·rintro w' ⟨s0, s1, s2, s3, s4, s5, s6, s7, s8, s9⟩
    go_simp
    with_reducible rfl
   rotate_left
   ·simp only [Act.put, sA, sB, sC, Qk, Ql]
    rfl
   refine QE (i := 5) (N := some 72) (v := ?_) (a' := ?_) (bm 14 62) rfl rfl (by kernel_rfl) (fun _ _ _ h => h) (Or.inl ⟨by rfl, ?_⟩) hHeld ?_ ?_
   rotate_left
   ·rintro w' ⟨s0, s1, s2, s3, s4, s5, s6, s7, s8, s9⟩
    go_simp
    with_reducible rfl
   rotate_left
   ·simp only [Act.put, sA, sB, sC, Qk, Ql]
    rfl
   refine Q4 (i := 6) (N := some 73) (v := ?_) (a' := ?_) (bm 14 126) rfl rfl (by kernel_rfl) (fun _ _ _ h => h) (Or.inl ⟨by rfl, ?_⟩) ?_ ?_
   rotate_left
   ·intro w'
    go_simp
    with_reducible rfl
   rotate_left
   ·simp only [Act.put, sA, sB, sC, Qk, Ql]
    rfl
   refine Q4 (i := 7) (N := some 74) (v := ?_) (a' := ?_) (bm 14 254) rfl rfl (by kernel_rfl) (fun _ _ _ h => h) (Or.inl ⟨by rfl, ?_⟩) ?_ ?_
   rotate_left
   ·intro w'
    go_simp
    with_reducible rfl
   rotate_left
   ·simp only [Act.put, sA, sB, sC, Qk, Ql]
    rfl
   refine Q4 (i := 8) (N := some 75) (v := ?_) (a' := ?_) (bm 14 510) rfl rfl (by kernel_rfl) (fun _ _ _ h => h) (Or.inl ⟨by rfl, ?_⟩) ?_ ?_
   rotate_left
   ·intro w'
    go_simp
    with_reducible rfl
   rotate_left
   ·simp only [Act.put, sA, sB, sC, Qk, Ql]
    rfl
   refine QE (i := 9) (N := some 76) (v := ?_) (a' := ?_) (bm 14 1022) rfl rfl (by kernel_rfl) (fun _ _ _ h => h) (Or.inl ⟨by rfl, ?_⟩) hHeld ?_ ?_
   rotate_left
   ·rintro w' ⟨s0, s1, s2, s3, s4, s5, s6, s7, s8, s9⟩
    go_simp
    with_reducible rfl
   rotate_left
   ·simp only [Act.put, sA, sB, sC, Qk, Ql]
    rfl
   refine QQ (i := 0) (N := some 67) (bm 14 1023) rfl rfl (by kernel_rfl) (by decide) (fun K hK => ?_)
   refine QI Tryd.func82 (by kernel_rfl) rfl #[.string ⟨#[108, 101, 116]⟩] (by rfl) rfl rfl (by simp only [List.map_toArray, List.map_cons, List.map_nil]; rfl) ?_
   (with_reducible refine (QV _ W9).mono ?_)
   rintro e w4 ⟨rfl, hbq4⟩
   refine ⟨_, rfl, ?_⟩
   have HB4 := Qe HB_ hbq4
   refine hK.out _ _ ⟨(Qa (Qc hXb.out HB4) 0).trans rfl, (Qa (Qc hXb.out HB4) 1).trans rfl, (Qa (Qc hXb.out HB4) 2).trans rfl, (Qa (Qc (Qc hbx.out hBr.out) HB4) 4).trans rfl, (he.out.below HB4).1, (he.out.below HB4).2.1, (he.out.below HB4).2.2.1, (he.out.below HB4).2.2.2.1, (he.out.below HB4).2.2.2.2.1, (he.out.below HB4).2.2.2.2.2⟩ (fun hHeld => ?_)
   clear hK K
   refine Qq (a' := ?_) ?_ ?_
   rotate_left
   ·show Act.put _ (some 67) _ = _
    simp only [Act.put, sA, sB, sC, Qk, Ql]
    rfl
   refine QQ (i := 10) (N := some 77) (bm 14 2047) rfl rfl (by kernel_rfl) (by decide) (fun K hK => ?_)
   refine QI Tryd.func86 (by kernel_rfl) rfl #[.agg #[.int .i64 x.f0, .string x.f1, .int .i64 x.f2, .slice B3 x.f3.length d3, .slice B4 x.f4.length d4, .slice B5 x.f5.length d5]] (by rfl) rfl rfl (by simp only [List.map_toArray, List.map_cons, List.map_nil]; rfl) ?_
   (with_reducible refine (hx.at w4 (GG.below hgr.out HB4) (Kd.Qj h3.out HB4) (Kd.Qj h4.out HB4) (Kd.Qj h5.out HB4)).mono ?_)
   rintro e w5 ⟨s5, A5', n5', c5', z5, rfl, hz5, hc5, hn5, hbq5⟩
   refine ⟨_, rfl, ?_⟩
   have hz5 := Qb.mk hz5
   have HB5 := Qe HB4 hbq5
   refine hK.out _ _ ⟨(Qa (Qc hXb.out HB5) 0).trans rfl, (Qa (Qc hXb.out HB5) 1).trans rfl, (Qa (Qc hXb.out HB5) 2).trans rfl, (Qa (Qc (Qc hbx.out hBr.out) HB5) 4).trans rfl, (he.out.below HB5).1, (he.out.below HB5).2.1, (he.out.below HB5).2.2.1, (he.out.below HB5).2.2.2.1, (he.out.below HB5).2.2.2.2.1, (he.out.below HB5).2.2.2.2.2⟩ (fun hHeld => ?_)
   clear hK K
   refine Qq (a' := ?_) ?_ ?_
   rotate_left
   ·show Act.put _ (some 77) _ = _
    simp only [Act.put, sA, sB, sC, Qk, Ql]
    rfl
   refine QQ (i := 11) (N := some 78) (bm 14 4095) rfl rfl (by kernel_rfl) (by decide) (fun K hK => ?_)
   refine QM (w1 := ?_) (v := ?_) (by rfl) rfl ?_ ?_
   rotate_left 2
   ·go_simp
    constructor
    ·rfl
    ·rfl
   have HB6 := Qd HB5 (.cells #[.string ⟨#[108, 101, 116]⟩, .slice none 0 0, .int .i64 0, .string ⟨#[]⟩, .slice A m c, .int .i64 0, .string s5, .slice A5' n5' c5', .int .i64 0] 109)
   have hbk := Qv w5 (.cells #[.string ⟨#[108, 101, 116]⟩, .slice none 0 0, .int .i64 0, .string ⟨#[]⟩, .slice A m c, .int .i64 0, .string s5, .slice A5' n5' c5', .int .i64 0] 109 (0, 0))
   refine hK.out _ _ ⟨(Qa (Qc hXb.out HB6) 0).trans rfl, (Qa (Qc hXb.out HB6) 1).trans rfl, (Qa (Qc hXb.out HB6) 2).trans rfl, (Qa (Qc (Qc hbx.out hBr.out) HB6) 4).trans rfl, (he.out.below HB6).1, (he.out.below HB6).2.1, (he.out.below HB6).2.2.1, (he.out.below HB6).2.2.2.1, (he.out.below HB6).2.2.2.2.1, (he.out.below HB6).2.2.2.2.2⟩ (fun hHeld => ?_)
   clear hK K
   refine Qq (a' := ?_) ?_ ?_
   rotate_left
   ·show Act.put _ (some 78) _ = _
    simp only [Act.put, sA, sB, sC, Qk, Ql]
    rfl
   refine QQ (i := 12) (N := some 79) (bm 14 8191) rfl rfl (by kernel_rfl) (by decide) (fun K hK => ?_)
   refine QI Tryd.func81 (by kernel_rfl) rfl #[.slice (some ⟨w5.heap.size, 0, none⟩) 3 3] (by rfl) rfl rfl (by simp only [List.map_toArray, List.map_cons, List.map_nil]; rfl) ?_
   (with_reducible refine (Z7 _ _ _ _).mono ?_)
   rintro e w7 ⟨rfl, hbq7⟩
   refine ⟨_, rfl, ?_⟩
   have HB7 := Qe HB6 hbq7
   have hNL : NL w7 W0.heap.size (some ⟨w5.heap.size, 0, none⟩) 3 _ := NL.three (Qc hbk hbq7) (Nat.le_trans hBr.out.size HB5.size) (NL.nil _ _) (Nat.le_refl _) ((hrow.out.list.1.list.mono (by have := hxs.out; omega)).below HB7) hrow.out.list.2 (((hn5.mono (Nat.le_trans hBr.out.size HB4.size)).below (Qd (Below.refl _ _) _)).below hbq7) hc5
   have HBz := hBr.out.trans (HB7.mono hBr.out.size)
   have hr1 := Qc hrx.out HBz
   have j0 := (Qa hr1 0).trans rfl
   have j1 := (Qa hr1 1).trans rfl
   have j2 := (Qa hr1 2).trans rfl
   have z0 := Qg hr1 0
   have z1 := Qg hr1 1
   have z2 := Qg hr1 2
   refine hK.out _ _ ⟨(Qa (Qc hXb.out HB7) 0).trans rfl, (Qa (Qc hXb.out HB7) 1).trans rfl, (Qa (Qc hXb.out HB7) 2).trans rfl, (Qa (Qc (Qc hbx.out hBr.out) HB7) 4).trans rfl, (he.out.below HB7).1, (he.out.below HB7).2.1, (he.out.below HB7).2.2.1, (he.out.below HB7).2.2.2.1, (he.out.below HB7).2.2.2.2.1, (he.out.below HB7).2.2.2.2.2⟩ (fun hHeld => ?_)
   clear hK K
   refine Qq (a' := ?_) ?_ ?_
   rotate_left
   ·show Act.put _ (some 79) _ = _
    simp only [Act.put, sA, sB, sC, Qk, Ql]
    rfl
   refine Zw (i := 13) (N := none) (bm 14 16383) rfl rfl (by kernel_rfl) (by decide) (fun K hK => ?_)
   refine Vk (w1 := ?_) (by rfl) rfl ?_ ?_
   rotate_left
   ·go_simp
    rfl
   refine hK.out _ _ ?_
   clear hK K
   refine Zx (by kernel_rfl) ?_
   clear hHeld
   go_wp2
   refine bodyPost_ret (v := .agg #[.string ⟨#[]⟩, .slice (some ⟨w5.heap.size, 0, none⟩) 3 3, .int .i64 0]) (by simp [results, Tryd.results86, go_sem, *]) rfl ⟨_, (some ⟨w5.heap.size, 0, none⟩), _, 3, (⟨#[108, 101, 116]⟩ : ByteArray).size + 3 + 0 + ((⟨#[]⟩ : ByteArray).size + 3 + z) + (s5.size + 3 + z5), rfl, by have h1 := hz5.out; have h2 : (⟨#[108, 101, 116]⟩ : ByteArray).size = 3 := rfl; have h3 := sz0; have h4 := hz.out; have h5 := eBL_take hxi; have h6 := eBL_le l (n3 + 1); have h7 := nmz_le ns n3; omega, Nat.le_refl _, ?_, ?_⟩
   ·exact ((((hNL).far (p := ⟨w.heap.size + 1, 0, none⟩) hl5.out _).far (p := ⟨w.heap.size + 1, 1, none⟩) hl5.out _).far (p := ⟨w.heap.size + 1, 2, none⟩) hl5.out _).mono (by have := hl5.out; omega)
   ·exact (((HB0.out.trans (HBz.mono HB0.out.size)).setCell (p := ⟨w.heap.size + 1, 0, none⟩) (Nat.le_succ _) _).setCell (p := ⟨w.heap.size + 1, 1, none⟩) (Nat.le_succ _) _).setCell (p := ⟨w.heap.size + 1, 2, none⟩) (Nat.le_succ _) _
def AC (W : World) (p : Addr) (x : S88) (B3 B7 B8 B9 : Option Addr) (d3 d7 d8 d9 : Nat) : Prop := W.cell? p = some (.int .i64 x.f0) ∧ W.cell? ⟨p.block, p.off + 1, none⟩ = some (.string x.f1) ∧ W.cell? ⟨p.block, p.off + 2, none⟩ = some (.int .i64 x.f2) ∧ W.cell? ⟨p.block, p.off + 3, none⟩ = some (.slice B3 x.f3.length d3) ∧ W.cell? ⟨p.block, p.off + 4, none⟩ = some (.int .i64 x.f4.f0) ∧ W.cell? ⟨p.block, p.off + 5, none⟩ = some (.string x.f4.f1) ∧ W.cell? ⟨p.block, p.off + 6, none⟩ = some (.int .i64 x.f4.f2) ∧ W.cell? ⟨p.block, p.off + 7, none⟩ = some (.slice B7 x.f4.f3.length d7) ∧ W.cell? ⟨p.block, p.off + 8, none⟩ = some (.slice B8 x.f4.f4.length d8) ∧ W.cell? ⟨p.block, p.off + 9, none⟩ = some (.slice B9 x.f4.f5.length d9)
theorem elem40 {W : World} {A : Option Addr} {n : Nat} {l : List S88} (hC : k88.C W A n l) (i : Nat) {x : S88} (hx : l[i]? = some x) : ∃ ad B3 d3 B7 d7 B8 d8 B9 d9, A = some ad ∧ AC W (ad.add (i * 10)) x B3 B7 B8 B9 d3 d7 d8 d9 ∧ Kd.string.C W B3 x.f3.length x.f3 ∧ Kd.string.C W B7 x.f4.f3.length x.f4.f3 ∧ k29.C W B8 x.f4.f4.length x.f4.f4 ∧ k88.C W B9 x.f4.f5.length x.f4.f5 := by
 have hi := (List.getElem?_eq_some_iff.1 hx).1
 obtain ⟨ad, B3, d3, B7, d7, B8, d8, B9, d9, e, c0, c1, c2, c3, c4, c5, c6, c7, c8, c9, l3, g3, l7, g7, l8, g8, l9, g9⟩ := at_T88 hC (i : Int) (by omega) (by have := hC.1; omega)
 have hr : Zc l (i : Int) = x := by
  unfold Zc
  rw [Int.toNat_natCast, List.getD_eq_getElem?_getD, hx]
  rfl
 rw [hr] at c0 c1 c2 c3 c4 c5 c6 c7 c8 c9 l3 g3 l7 g7 l8 g8 l9 g9
 rw [Int.toNat_natCast] at c0 c1 c2 c3 c4 c5 c6 c7 c8 c9
 exact ⟨ad, B3, d3, B7, d7, B8, d8, B9, d9, e, ⟨c0, c1, c2, c3, c4, c5, c6, c7, c8, c9⟩, g3, g7, g8, g9⟩
theorem AC.below {W W1 : World} {p : Addr} {x : S88} {B3 B7 B8 B9 : Option Addr} {d3 d7 d8 d9 : Nat} (h : AC W p x B3 B7 B8 B9 d3 d7 d8 d9) (hb : Below W.heap.size W W1) : AC W1 p x B3 B7 B8 B9 d3 d7 d8 d9 := by
 obtain ⟨h0, h1, h2, h3, h4, h5, h6, h7, h8, h9⟩ := h
 have f : ∀ {a v}, W.cell? a = some v → W1.cell? a = some v := fun h => (hb.cell (World.block_lt_of_cell? _ _ h)).trans h
 exact ⟨f h0, f h1, f h2, f h3, f h4, f h5, f h6, f h7, f h8, f h9⟩
set_option maxHeartbeats 8000000 in
set_option maxRecDepth 100000 in
theorem exprNode_case (f1 : ByteArray) (f2 : Int) (w : World) (hg : GG w) {A3 A4 A5 : Option Addr} {n3 c3 n4 c4 n5 c5 : Nat} (l : List S29) (x : S29) (hx : XN x) (hi : l[0]? = some x) (hC4 : k29.C w A4 n4 l) (la : List S88) (hla : la.length ≤ 100000000000) (ha : ∀ a ∈ la, XN a.f4 ∧ -9223372036854775808 ≤ a.f2 ∧ a.f2 ≤ 9223372036854775807 ∧ a.f3.length ≤ 100000000000) (hC5 : k88.C w A5 n5 la) :
  Calls Tryd.prog 86 #[.agg #[.int .i64 8, .string f1, .int .i64 f2, .slice A3 n3 c3, .slice A4 n4 c4, .slice A5 n5 c5]] w (ND (100 + (eB x + 10) + aBL la) w) := by
 have E : ∀ W : World, ∀ o : Obj, (W.alloc o).heap.size = W.heap.size + 1 := fun W o => Array.size_push _
 obtain ⟨W0, hW0⟩ : ∃ W0, (w.alloc (.cells #[.int .i64 8, .string f1, .int .i64 f2, .slice A3 n3 c3, .slice A4 n4 c4, .slice A5 n5 c5] 29)).alloc (.cells #[.string ⟨#[]⟩, .slice none 0 0, .int .i64 0] 109) = W0 := ⟨_, rfl⟩
 have HB0 : Qb (Below w.heap.size w W0) := ⟨by rw [← hW0]; exact Qd (Qd (Below.refl _ _) _) _⟩
 have hbx : Qb (W0.heap[w.heap.size]? = some (.cells #[.int .i64 8, .string f1, .int .i64 f2, .slice A3 n3 c3, .slice A4 n4 c4, .slice A5 n5 c5] 29 (0, 0))) := ⟨by rw [← hW0]; exact (Below.heap_alloc _ _ _ (by rw [E]; omega)).trans (Qv w _)⟩
 have hrx : Qb (W0.heap[w.heap.size + 1]? = some (.cells #[.string ⟨#[]⟩, .slice none 0 0, .int .i64 0] 109 (0, 0))) := ⟨by rw [← hW0, ← E w]; exact Qv _ _⟩
 have hl1 : Qb (W0.heap.size = w.heap.size + 2) := ⟨by rw [← hW0, E, E]⟩
 have hg0 := Qb.mk (GG.below hg HB0.out)
 have hp4 : 0 < n4 := by have h1 := (List.getElem?_eq_some_iff.1 hi).1; have h2 := hC4.1; omega
 obtain ⟨ad, B3, d3, B4, d4, B5, d5, rfl, he, g3, g4, g5, _, _, _⟩ := elem33 (Kd.Qj hC4 HB0.out) 0 hi
 rw [show ad.add (0 * 6) = ad by simp [Addr.add]] at he
 have he := Qb.mk he
 have h3 := Qb.mk g3
 have h4 := Qb.mk g4
 have h5 := Qb.mk g5
 clear g3 g4 g5 hC4
 have hC := Qb.mk (Kd.Qj hC5 HB0.out)
 have hn5 : Qb (la.length = n5) := ⟨hC5.1⟩
 clear hC5
 have k0 := (Qa hbx.out 0).trans rfl
 have k1 := (Qa hbx.out 1).trans rfl
 have k2 := (Qa hbx.out 2).trans rfl
 have k3 := (Qa hbx.out 3).trans rfl
 have k4 := (Qa hbx.out 4).trans rfl
 have k5 := (Qa hbx.out 5).trans rfl
 go_enter Tryd.func86, Tryd.ntmps86
 go_wp2
 (try rw [hW0])
 clear hW0 k0 k1 k2 k3 k4 k5
 have HB_ : Below W0.heap.size W0 W0.drew := Qi (Below.refl _ _)
 refine QZ (n := 10) (S := fun w' => w'.cell? ⟨w.heap.size, 4, none⟩ = some (.slice (some ad) n4 c4) ∧ w'.cell? ad = some (.int .i64 x.f0) ∧ w'.cell? ⟨(ad).block, (ad).off + 1, none⟩ = some (.string x.f1) ∧ w'.cell? ⟨(ad).block, (ad).off + 2, none⟩ = some (.int .i64 x.f2) ∧ w'.cell? ⟨(ad).block, (ad).off + 3, none⟩ = some (.slice B3 x.f3.length d3) ∧ w'.cell? ⟨(ad).block, (ad).off + 4, none⟩ = some (.slice B4 x.f4.length d4) ∧ w'.cell? ⟨(ad).block, (ad).off + 5, none⟩ = some (.slice B5 x.f5.length d5)) (ds := [9]) (bm 10 0) (by kernel_rfl) rfl rfl ⟨(Qa (Qc hbx.out HB_) 4).trans rfl, (he.out.below HB_).1, (he.out.below HB_).2.1, (he.out.below HB_).2.2.1, (he.out.below HB_).2.2.2.1, (he.out.below HB_).2.2.2.2.1, (he.out.below HB_).2.2.2.2.2⟩ (fun hHeld => ?_)
 generalize W0.drew = W9 at *
 refine Q4 (i := 1) (N := some 83) (v := ?_) (a' := ?_) (bm 10 2) rfl rfl (by kernel_rfl) (fun _ _ _ h => h) (Or.inl ⟨by rfl, ?_⟩) ?_ ?_
 rotate_left
 ·intro w'
  go_simp
  with_reducible rfl
 rotate_left
 ·simp only [Act.put, sA, sB, sC, Qk, Ql]
  rfl
 refine QE (i := 2) (N := some 84) (v := ?_) (a' := ?_) (bm 10 6) rfl rfl (by kernel_rfl) (fun _ _ _ h => h) (Or.inl ⟨by rfl, ?_⟩) hHeld ?_ ?_
 rotate_left
 ·rintro w' ⟨s0, s1, s2, s3, s4, s5, s6⟩
  go_simp
  with_reducible rfl
 rotate_left
 ·simp only [Act.put, sA, sB, sC, Qk, Ql]
  rfl
 refine Q4 (i := 3) (N := some 85) (v := ?_) (a' := ?_) (bm 10 14) rfl rfl (by kernel_rfl) (fun _ _ _ h => h) (Or.inl ⟨by rfl, ?_⟩) ?_ ?_
 rotate_left
 ·intro w'
  go_simp
  with_reducible rfl
 rotate_left
 ·simp only [Act.put, sA, sB, sC, Qk, Ql]
  rfl
 refine QE (i := 4) (N := some 86) (v := ?_) (a' := ?_) (bm 10 30) rfl rfl (by kernel_rfl) (fun _ _ _ h => h) (Or.inl ⟨by rfl, ?_⟩) hHeld ?_ ?_
 rotate_left
 ·rintro w' ⟨s0, s1, s2, s3, s4, s5, s6⟩
  go_simp
  with_reducible rfl
 rotate_left
 ·simp only [Act.put, sA, sB, sC, Qk, Ql]
  rfl
 refine Ze (σ := ByteArray × Option Addr × Nat × Nat × Nat × Nat × Nat) 1 (bm 10 511) (fun s_ => [(82, .agg #[.string ⟨#[99, 97, 115, 101]⟩, .slice none 0 0, .int .i64 0]), (87, .agg #[.string s_.1, .slice s_.2.1 s_.2.2.1 s_.2.2.2.1, .int .i64 0]), (88, .slice (some ⟨s_.2.2.2.2.1, 0, none⟩) 2 2), (89, .agg #[.string ⟨#[]⟩, .slice (some ⟨s_.2.2.2.2.1, 0, none⟩) 2 2, .int .i64 0]), (5, .pointer (some ⟨s_.2.2.2.2.2.1, 0, none⟩))]) (fun s_ w' => (Below W0.heap.size W0 w') ∧ (NR w' W0.heap.size (some s_.2.2.2.2.2.1) (some ⟨s_.2.2.2.2.1, 0, Option.none⟩) 2 2 (4 + 3 + 0 + (s_.1.size + 3 + s_.2.2.2.2.2.2)) ∧ s_.1.size + 3 + s_.2.2.2.2.2.2 ≤ eB x) ∧ (w'.heap[s_.2.2.2.2.2.1]? = some (.cells #[.string ⟨#[]⟩, .slice none 0 0, .int .i64 0] 109 (0, 0)) ∧ W0.heap.size ≤ s_.2.2.2.2.2.1)) ?_ ?_
 rotate_left
 ·intro hJ0_5_6_7_8
  refine Ze (σ := ByteArray × Option Addr × Nat × Nat × Nat × Nat × Nat) 2 (bm 10 255) (fun s_ => [(82, .agg #[.string ⟨#[99, 97, 115, 101]⟩, .slice none 0 0, .int .i64 0]), (87, .agg #[.string s_.1, .slice s_.2.1 s_.2.2.1 s_.2.2.2.1, .int .i64 0]), (88, .slice (some ⟨s_.2.2.2.2.1, 0, none⟩) 2 2), (89, .agg #[.string ⟨#[]⟩, .slice (some ⟨s_.2.2.2.2.1, 0, none⟩) 2 2, .int .i64 0])]) (fun s_ w' => (Below W0.heap.size W0 w') ∧ (NR w' W0.heap.size Option.none (some ⟨s_.2.2.2.2.1, 0, Option.none⟩) 2 2 (4 + 3 + 0 + (s_.1.size + 3 + s_.2.2.2.2.2.2)) ∧ s_.1.size + 3 + s_.2.2.2.2.2.2 ≤ eB x)) ?_ ?_
  rotate_left
  ·intro hJ0_5_6_7
   refine Ze (σ := ByteArray × Option Addr × Nat × Nat × Nat × Nat × Nat) 2 (bm 10 383) (fun s_ => [(82, .agg #[.string ⟨#[99, 97, 115, 101]⟩, .slice none 0 0, .int .i64 0]), (87, .agg #[.string s_.1, .slice s_.2.1 s_.2.2.1 s_.2.2.2.1, .int .i64 0]), (88, .slice (some ⟨s_.2.2.2.2.1, 0, none⟩) 2 2), (5, .pointer (some ⟨s_.2.2.2.2.2.1, 0, none⟩))]) (fun s_ w' => (Below W0.heap.size W0 w') ∧ (NR w' W0.heap.size (some s_.2.2.2.2.2.1) (some ⟨s_.2.2.2.2.1, 0, Option.none⟩) 2 2 (4 + 3 + 0 + (s_.1.size + 3 + s_.2.2.2.2.2.2)) ∧ s_.1.size + 3 + s_.2.2.2.2.2.2 ≤ eB x) ∧ (w'.heap[s_.2.2.2.2.2.1]? = some (.cells #[.string ⟨#[]⟩, .slice none 0 0, .int .i64 0] 109 (0, 0)) ∧ W0.heap.size ≤ s_.2.2.2.2.2.1)) ?_ ?_
   rotate_left
   ·intro hJ0_5_6_8
    refine Ze (σ := ByteArray × Option Addr × Nat × Nat × Nat × Nat × Nat) 3 (bm 10 127) (fun s_ => [(82, .agg #[.string ⟨#[99, 97, 115, 101]⟩, .slice none 0 0, .int .i64 0]), (87, .agg #[.string s_.1, .slice s_.2.1 s_.2.2.1 s_.2.2.2.1, .int .i64 0]), (88, .slice (some ⟨s_.2.2.2.2.1, 0, none⟩) 2 2)]) (fun s_ w' => (Below W0.heap.size W0 w') ∧ (NR w' W0.heap.size Option.none (some ⟨s_.2.2.2.2.1, 0, Option.none⟩) 2 2 (4 + 3 + 0 + (s_.1.size + 3 + s_.2.2.2.2.2.2)) ∧ s_.1.size + 3 + s_.2.2.2.2.2.2 ≤ eB x)) ?_ ?_
    rotate_left
    ·intro hJ0_5_6
     refine Ze (σ := ByteArray × Option Addr × Nat × Nat × Nat × Nat × Nat) 3 (bm 10 319) (fun s_ => [(82, .agg #[.string ⟨#[99, 97, 115, 101]⟩, .slice none 0 0, .int .i64 0]), (87, .agg #[.string s_.1, .slice s_.2.1 s_.2.2.1 s_.2.2.2.1, .int .i64 0]), (5, .pointer (some ⟨s_.2.2.2.2.2.1, 0, none⟩))]) (fun s_ w' => (Below W0.heap.size W0 w') ∧ (NX w' W0.heap.size (some s_.2.2.2.2.2.1) s_.2.1 s_.2.2.1 s_.2.2.2.2.2.2 ∧ s_.2.2.1 ≤ s_.2.2.2.1 ∧ s_.1.size + 3 + s_.2.2.2.2.2.2 ≤ eB x) ∧ (w'.heap[s_.2.2.2.2.2.1]? = some (.cells #[.string ⟨#[]⟩, .slice none 0 0, .int .i64 0] 109 (0, 0)) ∧ W0.heap.size ≤ s_.2.2.2.2.2.1)) ?_ ?_
     rotate_left
     ·intro hJ0_5_8
      refine Ze (σ := ByteArray × Option Addr × Nat × Nat × Nat × Nat × Nat) 4 (bm 10 63) (fun s_ => [(82, .agg #[.string ⟨#[99, 97, 115, 101]⟩, .slice none 0 0, .int .i64 0]), (87, .agg #[.string s_.1, .slice s_.2.1 s_.2.2.1 s_.2.2.2.1, .int .i64 0])]) (fun s_ w' => (Below W0.heap.size W0 w') ∧ (NX w' W0.heap.size Option.none s_.2.1 s_.2.2.1 s_.2.2.2.2.2.2 ∧ s_.2.2.1 ≤ s_.2.2.2.1 ∧ s_.1.size + 3 + s_.2.2.2.2.2.2 ≤ eB x)) ?_ ?_
      rotate_left
      ·intro hJ0_5
       refine Ze (σ := ByteArray × Option Addr × Nat × Nat × Nat × Nat × Nat) 4 (bm 10 287) (fun s_ => [(82, .agg #[.string ⟨#[99, 97, 115, 101]⟩, .slice none 0 0, .int .i64 0]), (5, .pointer (some ⟨s_.2.2.2.2.2.1, 0, none⟩))]) (fun s_ w' => (Below W0.heap.size W0 w') ∧ (w'.heap[s_.2.2.2.2.2.1]? = some (.cells #[.string ⟨#[]⟩, .slice none 0 0, .int .i64 0] 109 (0, 0)) ∧ W0.heap.size ≤ s_.2.2.2.2.2.1)) ?_ ?_
       rotate_left
       ·intro hJ0_8
        refine Ze (σ := ByteArray × Option Addr × Nat × Nat × Nat × Nat × Nat) 5 (bm 10 31) (fun s_ => [(82, .agg #[.string ⟨#[99, 97, 115, 101]⟩, .slice none 0 0, .int .i64 0])]) (fun s_ w' => (Below W0.heap.size W0 w')) ?_ ?_
        rotate_left
        ·intro hJ0
         refine Ze (σ := ByteArray × Option Addr × Nat × Nat × Nat × Nat × Nat) 5 (bm 10 286) (fun s_ => [(5, .pointer (some ⟨s_.2.2.2.2.2.1, 0, none⟩))]) (fun s_ w' => (Below W0.heap.size W0 w') ∧ (w'.heap[s_.2.2.2.2.2.1]? = some (.cells #[.string ⟨#[]⟩, .slice none 0 0, .int .i64 0] 109 (0, 0)) ∧ W0.heap.size ≤ s_.2.2.2.2.2.1)) ?_ ?_
         rotate_left
         ·intro hJ8
          refine two_ (i := 0) (j := 8) (Ni := some 82) (Nj := some 5) (bm 10 31) (bm 10 286) rfl rfl rfl rfl (by kernel_rfl) (by decide) (by decide) (fun K hK => ?_) (fun K hK => ?_)
          ·skip
           refine QI Tryd.func82 (by kernel_rfl) rfl #[.string ⟨#[99, 97, 115, 101]⟩] (by rfl) rfl rfl (by simp only [List.map_toArray, List.map_cons, List.map_nil]; rfl) ?_
           (with_reducible refine (QV _ W9).mono ?_)
           rintro e w3 ⟨rfl, hbq⟩
           refine ⟨_, rfl, ?_⟩
           have HBn := Qe HB_ hbq
           refine hK.out _ _ ⟨(Qa (Qc hbx.out HBn) 4).trans rfl, (he.out.below HBn).1, (he.out.below HBn).2.1, (he.out.below HBn).2.2.1, (he.out.below HBn).2.2.2.1, (he.out.below HBn).2.2.2.2.1, (he.out.below HBn).2.2.2.2.2⟩ (fun hHeld => ?_)
           clear hK K
           refine Qq (a' := ?_) ?_ ?_
           rotate_left
           ·show Act.put _ (some 82) _ = _
            simp only [Act.put, sA, sB, sC, Qk, Ql]
            rfl
           exact Qq (by first | (simp only [Qs, Act.put, List.setIfInBounds_toArray, List.set_cons_zero, List.set_cons_succ]; done) | (simp only [Qs, Act.put, List.setIfInBounds_toArray, List.set_cons_zero, List.set_cons_succ]; rfl)) (hJ0 (⟨#[]⟩, none, 0, 0, 0, 0, 0) _ HBn)
          ·skip
           refine QM (w1 := ?_) (v := ?_) (by rfl) rfl ?_ ?_
           rotate_left 2
           ·go_simp
            constructor
            ·rfl
            ·rfl
           have hbq := Qd (Below.refl W9.heap.size W9) (.cells #[.string ⟨#[]⟩, .slice none 0 0, .int .i64 0] 109)
           have HBn := Qe HB_ hbq
           refine hK.out _ _ ⟨(Qa (Qc hbx.out HBn) 4).trans rfl, (he.out.below HBn).1, (he.out.below HBn).2.1, (he.out.below HBn).2.2.1, (he.out.below HBn).2.2.2.1, (he.out.below HBn).2.2.2.2.1, (he.out.below HBn).2.2.2.2.2⟩ (fun hHeld => ?_)
           clear hK K
           refine Qq (a' := ?_) ?_ ?_
           rotate_left
           ·show Act.put _ (some 5) _ = _
            simp only [Act.put, sA, sB, sC, Qk, Ql]
            rfl
           exact Qq (by first | (simp only [Qs, Act.put, List.setIfInBounds_toArray, List.set_cons_zero, List.set_cons_succ]; done) | (simp only [Qs, Act.put, List.setIfInBounds_toArray, List.set_cons_zero, List.set_cons_succ]; rfl)) (hJ8 (⟨#[]⟩, none, 0, 0, 0, W9.heap.size, 0) _ ⟨HBn, ⟨Qv W9 _, HB_.size⟩⟩)
         ·skip
          rintro ⟨s5, A5', n5', c5', b6, xb, z5⟩ W9 ⟨HB_, hx8⟩
          skip
          have hHeld : W9.cell? ⟨w.heap.size, 4, none⟩ = some (.slice (some ad) n4 c4) ∧ W9.cell? ad = some (.int .i64 x.f0) ∧ W9.cell? ⟨(ad).block, (ad).off + 1, none⟩ = some (.string x.f1) ∧ W9.cell? ⟨(ad).block, (ad).off + 2, none⟩ = some (.int .i64 x.f2) ∧ W9.cell? ⟨(ad).block, (ad).off + 3, none⟩ = some (.slice B3 x.f3.length d3) ∧ W9.cell? ⟨(ad).block, (ad).off + 4, none⟩ = some (.slice B4 x.f4.length d4) ∧ W9.cell? ⟨(ad).block, (ad).off + 5, none⟩ = some (.slice B5 x.f5.length d5) := ⟨(Qa (Qc hbx.out HB_) 4).trans rfl, (he.out.below HB_).1, (he.out.below HB_).2.1, (he.out.below HB_).2.2.1, (he.out.below HB_).2.2.2.1, (he.out.below HB_).2.2.2.2.1, (he.out.below HB_).2.2.2.2.2⟩
          refine Qq (a' := ?_) ?_ ?_
          rotate_left
          ·simp only [Qs, Act.put, List.setIfInBounds_toArray, List.set_cons_zero, List.set_cons_succ]
           rfl
          refine QQ (i := 0) (N := some 82) (bm 10 287) rfl rfl (by kernel_rfl) (by decide) (fun K hK => ?_)
          refine QI Tryd.func82 (by kernel_rfl) rfl #[.string ⟨#[99, 97, 115, 101]⟩] (by rfl) rfl rfl (by simp only [List.map_toArray, List.map_cons, List.map_nil]; rfl) ?_
          (with_reducible refine (QV _ W9).mono ?_)
          rintro e w3 ⟨rfl, hbq⟩
          refine ⟨_, rfl, ?_⟩
          have HBn := Qe HB_ hbq
          refine hK.out _ _ ⟨(Qa (Qc hbx.out HBn) 4).trans rfl, (he.out.below HBn).1, (he.out.below HBn).2.1, (he.out.below HBn).2.2.1, (he.out.below HBn).2.2.2.1, (he.out.below HBn).2.2.2.2.1, (he.out.below HBn).2.2.2.2.2⟩ (fun hHeld => ?_)
          clear hK K
          refine Qq (a' := ?_) ?_ ?_
          rotate_left
          ·show Act.put _ (some 82) _ = _
           simp only [Act.put, sA, sB, sC, Qk, Ql]
           rfl
          exact Qq (by first | (simp only [Qs, Act.put, List.setIfInBounds_toArray, List.set_cons_zero, List.set_cons_succ]; done) | (simp only [Qs, Act.put, List.setIfInBounds_toArray, List.set_cons_zero, List.set_cons_succ]; rfl)) (hJ0_8 (s5, A5', n5', c5', b6, xb, z5) _ ⟨HBn, ⟨Qc hx8.1 hbq, hx8.2⟩⟩)
        ·skip
         rintro ⟨s5, A5', n5', c5', b6, xb, z5⟩ W9 HB_
         skip
         have hHeld : W9.cell? ⟨w.heap.size, 4, none⟩ = some (.slice (some ad) n4 c4) ∧ W9.cell? ad = some (.int .i64 x.f0) ∧ W9.cell? ⟨(ad).block, (ad).off + 1, none⟩ = some (.string x.f1) ∧ W9.cell? ⟨(ad).block, (ad).off + 2, none⟩ = some (.int .i64 x.f2) ∧ W9.cell? ⟨(ad).block, (ad).off + 3, none⟩ = some (.slice B3 x.f3.length d3) ∧ W9.cell? ⟨(ad).block, (ad).off + 4, none⟩ = some (.slice B4 x.f4.length d4) ∧ W9.cell? ⟨(ad).block, (ad).off + 5, none⟩ = some (.slice B5 x.f5.length d5) := ⟨(Qa (Qc hbx.out HB_) 4).trans rfl, (he.out.below HB_).1, (he.out.below HB_).2.1, (he.out.below HB_).2.2.1, (he.out.below HB_).2.2.2.1, (he.out.below HB_).2.2.2.2.1, (he.out.below HB_).2.2.2.2.2⟩
         refine Qq (a' := ?_) ?_ ?_
         rotate_left
         ·simp only [Qs, Act.put, List.setIfInBounds_toArray, List.set_cons_zero, List.set_cons_succ]
          rfl
         refine two_ (i := 5) (j := 8) (Ni := some 87) (Nj := some 5) (bm 10 63) (bm 10 287) rfl rfl rfl rfl (by kernel_rfl) (by decide) (by decide) (fun K hK => ?_) (fun K hK => ?_)
         ·skip
          refine QI Tryd.func86 (by kernel_rfl) rfl #[.agg #[.int .i64 x.f0, .string x.f1, .int .i64 x.f2, .slice B3 x.f3.length d3, .slice B4 x.f4.length d4, .slice B5 x.f5.length d5]] (by rfl) rfl rfl (by simp only [List.map_toArray, List.map_cons, List.map_nil]; rfl) ?_
          (with_reducible refine (hx.at W9 (GG.below hg0.out HB_) (Kd.Qj h3.out HB_) (Kd.Qj h4.out HB_) (Kd.Qj h5.out HB_)).mono ?_)
          rintro e w3 ⟨s5, A5', n5', c5', z5, rfl, hz5, hc5, hn5, hbq⟩
          refine ⟨_, rfl, ?_⟩
          have HBn := Qe HB_ hbq
          refine hK.out _ _ ⟨(Qa (Qc hbx.out HBn) 4).trans rfl, (he.out.below HBn).1, (he.out.below HBn).2.1, (he.out.below HBn).2.2.1, (he.out.below HBn).2.2.2.1, (he.out.below HBn).2.2.2.2.1, (he.out.below HBn).2.2.2.2.2⟩ (fun hHeld => ?_)
          clear hK K
          refine Qq (a' := ?_) ?_ ?_
          rotate_left
          ·show Act.put _ (some 87) _ = _
           simp only [Act.put, sA, sB, sC, Qk, Ql]
           rfl
          exact Qq (by first | (simp only [Qs, Act.put, List.setIfInBounds_toArray, List.set_cons_zero, List.set_cons_succ]; done) | (simp only [Qs, Act.put, List.setIfInBounds_toArray, List.set_cons_zero, List.set_cons_succ]; rfl)) (hJ0_5 (s5, A5', n5', c5', b6, xb, z5) _ ⟨HBn, ⟨NL.nx hn5 HB_.size (fun y hy => by cases hy), hc5, hz5⟩⟩)
         ·skip
          refine QM (w1 := ?_) (v := ?_) (by rfl) rfl ?_ ?_
          rotate_left 2
          ·go_simp
           constructor
           ·rfl
           ·rfl
          have hbq := Qd (Below.refl W9.heap.size W9) (.cells #[.string ⟨#[]⟩, .slice none 0 0, .int .i64 0] 109)
          have HBn := Qe HB_ hbq
          refine hK.out _ _ ⟨(Qa (Qc hbx.out HBn) 4).trans rfl, (he.out.below HBn).1, (he.out.below HBn).2.1, (he.out.below HBn).2.2.1, (he.out.below HBn).2.2.2.1, (he.out.below HBn).2.2.2.2.1, (he.out.below HBn).2.2.2.2.2⟩ (fun hHeld => ?_)
          clear hK K
          refine Qq (a' := ?_) ?_ ?_
          rotate_left
          ·show Act.put _ (some 5) _ = _
           simp only [Act.put, sA, sB, sC, Qk, Ql]
           rfl
          exact Qq (by first | (simp only [Qs, Act.put, List.setIfInBounds_toArray, List.set_cons_zero, List.set_cons_succ]; done) | (simp only [Qs, Act.put, List.setIfInBounds_toArray, List.set_cons_zero, List.set_cons_succ]; rfl)) (hJ0_8 (s5, A5', n5', c5', b6, W9.heap.size, z5) _ ⟨HBn, ⟨Qv W9 _, HB_.size⟩⟩)
       ·skip
        rintro ⟨s5, A5', n5', c5', b6, xb, z5⟩ W9 ⟨HB_, hx8⟩
        skip
        have hHeld : W9.cell? ⟨w.heap.size, 4, none⟩ = some (.slice (some ad) n4 c4) ∧ W9.cell? ad = some (.int .i64 x.f0) ∧ W9.cell? ⟨(ad).block, (ad).off + 1, none⟩ = some (.string x.f1) ∧ W9.cell? ⟨(ad).block, (ad).off + 2, none⟩ = some (.int .i64 x.f2) ∧ W9.cell? ⟨(ad).block, (ad).off + 3, none⟩ = some (.slice B3 x.f3.length d3) ∧ W9.cell? ⟨(ad).block, (ad).off + 4, none⟩ = some (.slice B4 x.f4.length d4) ∧ W9.cell? ⟨(ad).block, (ad).off + 5, none⟩ = some (.slice B5 x.f5.length d5) := ⟨(Qa (Qc hbx.out HB_) 4).trans rfl, (he.out.below HB_).1, (he.out.below HB_).2.1, (he.out.below HB_).2.2.1, (he.out.below HB_).2.2.2.1, (he.out.below HB_).2.2.2.2.1, (he.out.below HB_).2.2.2.2.2⟩
        refine Qq (a' := ?_) ?_ ?_
        rotate_left
        ·simp only [Qs, Act.put, List.setIfInBounds_toArray, List.set_cons_zero, List.set_cons_succ]
         rfl
        refine QQ (i := 5) (N := some 87) (bm 10 319) rfl rfl (by kernel_rfl) (by decide) (fun K hK => ?_)
        refine QI Tryd.func86 (by kernel_rfl) rfl #[.agg #[.int .i64 x.f0, .string x.f1, .int .i64 x.f2, .slice B3 x.f3.length d3, .slice B4 x.f4.length d4, .slice B5 x.f5.length d5]] (by rfl) rfl rfl (by simp only [List.map_toArray, List.map_cons, List.map_nil]; rfl) ?_
        (with_reducible refine (hx.at W9 (GG.below hg0.out HB_) (Kd.Qj h3.out HB_) (Kd.Qj h4.out HB_) (Kd.Qj h5.out HB_)).mono ?_)
        rintro e w3 ⟨s5, A5', n5', c5', z5, rfl, hz5, hc5, hn5, hbq⟩
        refine ⟨_, rfl, ?_⟩
        have HBn := Qe HB_ hbq
        refine hK.out _ _ ⟨(Qa (Qc hbx.out HBn) 4).trans rfl, (he.out.below HBn).1, (he.out.below HBn).2.1, (he.out.below HBn).2.2.1, (he.out.below HBn).2.2.2.1, (he.out.below HBn).2.2.2.2.1, (he.out.below HBn).2.2.2.2.2⟩ (fun hHeld => ?_)
        clear hK K
        refine Qq (a' := ?_) ?_ ?_
        rotate_left
        ·show Act.put _ (some 87) _ = _
         simp only [Act.put, sA, sB, sC, Qk, Ql]
         rfl
        exact Qq (by first | (simp only [Qs, Act.put, List.setIfInBounds_toArray, List.set_cons_zero, List.set_cons_succ]; done) | (simp only [Qs, Act.put, List.setIfInBounds_toArray, List.set_cons_zero, List.set_cons_succ]; rfl)) (hJ0_5_8 (s5, A5', n5', c5', b6, xb, z5) _ ⟨HBn, ⟨NL.nx hn5 HB_.size (fun y hy => by obtain rfl := Option.some.inj hy; exact (Array.getElem?_eq_some_iff.1 hx8.1).1), hc5, hz5⟩, ⟨Qc hx8.1 hbq, hx8.2⟩⟩)
      ·skip
       rintro ⟨s5, A5', n5', c5', b6, xb, z5⟩ W9 ⟨HB_, hn5'⟩
       skip
       have hHeld : W9.cell? ⟨w.heap.size, 4, none⟩ = some (.slice (some ad) n4 c4) ∧ W9.cell? ad = some (.int .i64 x.f0) ∧ W9.cell? ⟨(ad).block, (ad).off + 1, none⟩ = some (.string x.f1) ∧ W9.cell? ⟨(ad).block, (ad).off + 2, none⟩ = some (.int .i64 x.f2) ∧ W9.cell? ⟨(ad).block, (ad).off + 3, none⟩ = some (.slice B3 x.f3.length d3) ∧ W9.cell? ⟨(ad).block, (ad).off + 4, none⟩ = some (.slice B4 x.f4.length d4) ∧ W9.cell? ⟨(ad).block, (ad).off + 5, none⟩ = some (.slice B5 x.f5.length d5) := ⟨(Qa (Qc hbx.out HB_) 4).trans rfl, (he.out.below HB_).1, (he.out.below HB_).2.1, (he.out.below HB_).2.2.1, (he.out.below HB_).2.2.2.1, (he.out.below HB_).2.2.2.2.1, (he.out.below HB_).2.2.2.2.2⟩
       refine Qq (a' := ?_) ?_ ?_
       rotate_left
       ·simp only [Qs, Act.put, List.setIfInBounds_toArray, List.set_cons_zero, List.set_cons_succ]
        rfl
       refine two_ (i := 6) (j := 8) (Ni := some 88) (Nj := some 5) (bm 10 127) (bm 10 319) rfl rfl rfl rfl (by kernel_rfl) (by decide) (by decide) (fun K hK => ?_) (fun K hK => ?_)
       ·skip
        refine QM (w1 := ?_) (v := ?_) (by rfl) rfl ?_ ?_
        rotate_left 2
        ·go_simp
         constructor
         ·rfl
         ·rfl
        have hbq := Qd (Below.refl W9.heap.size W9) (.cells #[.string ⟨#[99, 97, 115, 101]⟩, .slice none 0 0, .int .i64 0, .string s5, .slice A5' n5' c5', .int .i64 0] 109)
        have HBn := Qe HB_ hbq
        refine hK.out _ _ ⟨(Qa (Qc hbx.out HBn) 4).trans rfl, (he.out.below HBn).1, (he.out.below HBn).2.1, (he.out.below HBn).2.2.1, (he.out.below HBn).2.2.2.1, (he.out.below HBn).2.2.2.2.1, (he.out.below HBn).2.2.2.2.2⟩ (fun hHeld => ?_)
        clear hK K
        refine Qq (a' := ?_) ?_ ?_
        rotate_left
        ·show Act.put _ (some 88) _ = _
         simp only [Act.put, sA, sB, sC, Qk, Ql]
         rfl
        exact Qq (by first | (simp only [Qs, Act.put, List.setIfInBounds_toArray, List.set_cons_zero, List.set_cons_succ]; done) | (simp only [Qs, Act.put, List.setIfInBounds_toArray, List.set_cons_zero, List.set_cons_succ]; rfl)) (hJ0_5_6 (s5, A5', n5', c5', W9.heap.size, xb, z5) _ ⟨HBn, ⟨NR.litX hn5'.1 hn5'.2.1 HB_.size (fun e => by cases e), hn5'.2.2⟩⟩)
       ·skip
        refine QM (w1 := ?_) (v := ?_) (by rfl) rfl ?_ ?_
        rotate_left 2
        ·go_simp
         constructor
         ·rfl
         ·rfl
        have hbq := Qd (Below.refl W9.heap.size W9) (.cells #[.string ⟨#[]⟩, .slice none 0 0, .int .i64 0] 109)
        have HBn := Qe HB_ hbq
        refine hK.out _ _ ⟨(Qa (Qc hbx.out HBn) 4).trans rfl, (he.out.below HBn).1, (he.out.below HBn).2.1, (he.out.below HBn).2.2.1, (he.out.below HBn).2.2.2.1, (he.out.below HBn).2.2.2.2.1, (he.out.below HBn).2.2.2.2.2⟩ (fun hHeld => ?_)
        clear hK K
        refine Qq (a' := ?_) ?_ ?_
        rotate_left
        ·show Act.put _ (some 5) _ = _
         simp only [Act.put, sA, sB, sC, Qk, Ql]
         rfl
        exact Qq (by first | (simp only [Qs, Act.put, List.setIfInBounds_toArray, List.set_cons_zero, List.set_cons_succ]; done) | (simp only [Qs, Act.put, List.setIfInBounds_toArray, List.set_cons_zero, List.set_cons_succ]; rfl)) (hJ0_5_8 (s5, A5', n5', c5', b6, W9.heap.size, z5) _ ⟨HBn, ⟨NX.newx hn5'.1 _, hn5'.2⟩, ⟨Qv W9 _, HB_.size⟩⟩)
     ·skip
      rintro ⟨s5, A5', n5', c5', b6, xb, z5⟩ W9 ⟨HB_, hn5', hx8⟩
      skip
      have hHeld : W9.cell? ⟨w.heap.size, 4, none⟩ = some (.slice (some ad) n4 c4) ∧ W9.cell? ad = some (.int .i64 x.f0) ∧ W9.cell? ⟨(ad).block, (ad).off + 1, none⟩ = some (.string x.f1) ∧ W9.cell? ⟨(ad).block, (ad).off + 2, none⟩ = some (.int .i64 x.f2) ∧ W9.cell? ⟨(ad).block, (ad).off + 3, none⟩ = some (.slice B3 x.f3.length d3) ∧ W9.cell? ⟨(ad).block, (ad).off + 4, none⟩ = some (.slice B4 x.f4.length d4) ∧ W9.cell? ⟨(ad).block, (ad).off + 5, none⟩ = some (.slice B5 x.f5.length d5) := ⟨(Qa (Qc hbx.out HB_) 4).trans rfl, (he.out.below HB_).1, (he.out.below HB_).2.1, (he.out.below HB_).2.2.1, (he.out.below HB_).2.2.2.1, (he.out.below HB_).2.2.2.2.1, (he.out.below HB_).2.2.2.2.2⟩
      refine Qq (a' := ?_) ?_ ?_
      rotate_left
      ·simp only [Qs, Act.put, List.setIfInBounds_toArray, List.set_cons_zero, List.set_cons_succ]
       rfl
      refine QQ (i := 6) (N := some 88) (bm 10 383) rfl rfl (by kernel_rfl) (by decide) (fun K hK => ?_)
      refine QM (w1 := ?_) (v := ?_) (by rfl) rfl ?_ ?_
      rotate_left 2
      ·go_simp
       constructor
       ·rfl
       ·rfl
      have hbq := Qd (Below.refl W9.heap.size W9) (.cells #[.string ⟨#[99, 97, 115, 101]⟩, .slice none 0 0, .int .i64 0, .string s5, .slice A5' n5' c5', .int .i64 0] 109)
      have HBn := Qe HB_ hbq
      refine hK.out _ _ ⟨(Qa (Qc hbx.out HBn) 4).trans rfl, (he.out.below HBn).1, (he.out.below HBn).2.1, (he.out.below HBn).2.2.1, (he.out.below HBn).2.2.2.1, (he.out.below HBn).2.2.2.2.1, (he.out.below HBn).2.2.2.2.2⟩ (fun hHeld => ?_)
      clear hK K
      refine Qq (a' := ?_) ?_ ?_
      rotate_left
      ·show Act.put _ (some 88) _ = _
       simp only [Act.put, sA, sB, sC, Qk, Ql]
       rfl
      exact Qq (by first | (simp only [Qs, Act.put, List.setIfInBounds_toArray, List.set_cons_zero, List.set_cons_succ]; done) | (simp only [Qs, Act.put, List.setIfInBounds_toArray, List.set_cons_zero, List.set_cons_succ]; rfl)) (hJ0_5_6_8 (s5, A5', n5', c5', W9.heap.size, xb, z5) _ ⟨HBn, ⟨NR.litX hn5'.1 hn5'.2.1 HB_.size (fun e => by have h1 := Option.some.inj e; have h2 := (Array.getElem?_eq_some_iff.1 hx8.1).1; dsimp only at h1 h2; omega), hn5'.2.2⟩, ⟨Qc hx8.1 hbq, hx8.2⟩⟩)
    ·skip
     rintro ⟨s5, A5', n5', c5', b6, xb, z5⟩ W9 ⟨HB_, hr6⟩
     skip
     have hHeld : W9.cell? ⟨w.heap.size, 4, none⟩ = some (.slice (some ad) n4 c4) ∧ W9.cell? ad = some (.int .i64 x.f0) ∧ W9.cell? ⟨(ad).block, (ad).off + 1, none⟩ = some (.string x.f1) ∧ W9.cell? ⟨(ad).block, (ad).off + 2, none⟩ = some (.int .i64 x.f2) ∧ W9.cell? ⟨(ad).block, (ad).off + 3, none⟩ = some (.slice B3 x.f3.length d3) ∧ W9.cell? ⟨(ad).block, (ad).off + 4, none⟩ = some (.slice B4 x.f4.length d4) ∧ W9.cell? ⟨(ad).block, (ad).off + 5, none⟩ = some (.slice B5 x.f5.length d5) := ⟨(Qa (Qc hbx.out HB_) 4).trans rfl, (he.out.below HB_).1, (he.out.below HB_).2.1, (he.out.below HB_).2.2.1, (he.out.below HB_).2.2.2.1, (he.out.below HB_).2.2.2.2.1, (he.out.below HB_).2.2.2.2.2⟩
     refine Qq (a' := ?_) ?_ ?_
     rotate_left
     ·simp only [Qs, Act.put, List.setIfInBounds_toArray, List.set_cons_zero, List.set_cons_succ]
      rfl
     refine two_ (i := 7) (j := 8) (Ni := some 89) (Nj := some 5) (bm 10 255) (bm 10 383) rfl rfl rfl rfl (by kernel_rfl) (by decide) (by decide) (fun K hK => ?_) (fun K hK => ?_)
     ·skip
      refine QI Tryd.func81 (by kernel_rfl) rfl #[.slice (some ⟨b6, 0, none⟩) 2 2] (by rfl) rfl rfl (by simp only [List.map_toArray, List.map_cons, List.map_nil]; rfl) ?_
      (with_reducible refine (Z7 _ _ _ _).mono ?_)
      rintro e w3 ⟨rfl, hbq⟩
      refine ⟨_, rfl, ?_⟩
      have HBn := Qe HB_ hbq
      refine hK.out _ _ ⟨(Qa (Qc hbx.out HBn) 4).trans rfl, (he.out.below HBn).1, (he.out.below HBn).2.1, (he.out.below HBn).2.2.1, (he.out.below HBn).2.2.2.1, (he.out.below HBn).2.2.2.2.1, (he.out.below HBn).2.2.2.2.2⟩ (fun hHeld => ?_)
      clear hK K
      refine Qq (a' := ?_) ?_ ?_
      rotate_left
      ·show Act.put _ (some 89) _ = _
       simp only [Act.put, sA, sB, sC, Qk, Ql]
       rfl
      exact Qq (by first | (simp only [Qs, Act.put, List.setIfInBounds_toArray, List.set_cons_zero, List.set_cons_succ]; done) | (simp only [Qs, Act.put, List.setIfInBounds_toArray, List.set_cons_zero, List.set_cons_succ]; rfl)) (hJ0_5_6_7 (s5, A5', n5', c5', b6, xb, z5) _ ⟨HBn, ⟨NR.below hr6.1 hbq, hr6.2⟩⟩)
     ·skip
      refine QM (w1 := ?_) (v := ?_) (by rfl) rfl ?_ ?_
      rotate_left 2
      ·go_simp
       constructor
       ·rfl
       ·rfl
      have hbq := Qd (Below.refl W9.heap.size W9) (.cells #[.string ⟨#[]⟩, .slice none 0 0, .int .i64 0] 109)
      have HBn := Qe HB_ hbq
      refine hK.out _ _ ⟨(Qa (Qc hbx.out HBn) 4).trans rfl, (he.out.below HBn).1, (he.out.below HBn).2.1, (he.out.below HBn).2.2.1, (he.out.below HBn).2.2.2.1, (he.out.below HBn).2.2.2.2.1, (he.out.below HBn).2.2.2.2.2⟩ (fun hHeld => ?_)
      clear hK K
      refine Qq (a' := ?_) ?_ ?_
      rotate_left
      ·show Act.put _ (some 5) _ = _
       simp only [Act.put, sA, sB, sC, Qk, Ql]
       rfl
      exact Qq (by first | (simp only [Qs, Act.put, List.setIfInBounds_toArray, List.set_cons_zero, List.set_cons_succ]; done) | (simp only [Qs, Act.put, List.setIfInBounds_toArray, List.set_cons_zero, List.set_cons_succ]; rfl)) (hJ0_5_6_8 (s5, A5', n5', c5', b6, W9.heap.size, z5) _ ⟨HBn, ⟨NR.newx hr6.1 _, hr6.2⟩, ⟨Qv W9 _, HB_.size⟩⟩)
   ·skip
    rintro ⟨s5, A5', n5', c5', b6, xb, z5⟩ W9 ⟨HB_, hr6, hx8⟩
    skip
    have hHeld : W9.cell? ⟨w.heap.size, 4, none⟩ = some (.slice (some ad) n4 c4) ∧ W9.cell? ad = some (.int .i64 x.f0) ∧ W9.cell? ⟨(ad).block, (ad).off + 1, none⟩ = some (.string x.f1) ∧ W9.cell? ⟨(ad).block, (ad).off + 2, none⟩ = some (.int .i64 x.f2) ∧ W9.cell? ⟨(ad).block, (ad).off + 3, none⟩ = some (.slice B3 x.f3.length d3) ∧ W9.cell? ⟨(ad).block, (ad).off + 4, none⟩ = some (.slice B4 x.f4.length d4) ∧ W9.cell? ⟨(ad).block, (ad).off + 5, none⟩ = some (.slice B5 x.f5.length d5) := ⟨(Qa (Qc hbx.out HB_) 4).trans rfl, (he.out.below HB_).1, (he.out.below HB_).2.1, (he.out.below HB_).2.2.1, (he.out.below HB_).2.2.2.1, (he.out.below HB_).2.2.2.2.1, (he.out.below HB_).2.2.2.2.2⟩
    refine Qq (a' := ?_) ?_ ?_
    rotate_left
    ·simp only [Qs, Act.put, List.setIfInBounds_toArray, List.set_cons_zero, List.set_cons_succ]
     rfl
    refine QQ (i := 7) (N := some 89) (bm 10 511) rfl rfl (by kernel_rfl) (by decide) (fun K hK => ?_)
    refine QI Tryd.func81 (by kernel_rfl) rfl #[.slice (some ⟨b6, 0, none⟩) 2 2] (by rfl) rfl rfl (by simp only [List.map_toArray, List.map_cons, List.map_nil]; rfl) ?_
    (with_reducible refine (Z7 _ _ _ _).mono ?_)
    rintro e w3 ⟨rfl, hbq⟩
    refine ⟨_, rfl, ?_⟩
    have HBn := Qe HB_ hbq
    refine hK.out _ _ ⟨(Qa (Qc hbx.out HBn) 4).trans rfl, (he.out.below HBn).1, (he.out.below HBn).2.1, (he.out.below HBn).2.2.1, (he.out.below HBn).2.2.2.1, (he.out.below HBn).2.2.2.2.1, (he.out.below HBn).2.2.2.2.2⟩ (fun hHeld => ?_)
    clear hK K
    refine Qq (a' := ?_) ?_ ?_
    rotate_left
    ·show Act.put _ (some 89) _ = _
     simp only [Act.put, sA, sB, sC, Qk, Ql]
     rfl
    exact Qq (by first | (simp only [Qs, Act.put, List.setIfInBounds_toArray, List.set_cons_zero, List.set_cons_succ]; done) | (simp only [Qs, Act.put, List.setIfInBounds_toArray, List.set_cons_zero, List.set_cons_succ]; rfl)) (hJ0_5_6_7_8 (s5, A5', n5', c5', b6, xb, z5) _ ⟨HBn, ⟨NR.below hr6.1 hbq, hr6.2⟩, ⟨Qc hx8.1 hbq, hx8.2⟩⟩)
  ·skip
   rintro ⟨s5, A5', n5', c5', b6, xb, z5⟩ W9 ⟨HB_, hr6⟩
   skip
   have hHeld : W9.cell? ⟨w.heap.size, 4, none⟩ = some (.slice (some ad) n4 c4) ∧ W9.cell? ad = some (.int .i64 x.f0) ∧ W9.cell? ⟨(ad).block, (ad).off + 1, none⟩ = some (.string x.f1) ∧ W9.cell? ⟨(ad).block, (ad).off + 2, none⟩ = some (.int .i64 x.f2) ∧ W9.cell? ⟨(ad).block, (ad).off + 3, none⟩ = some (.slice B3 x.f3.length d3) ∧ W9.cell? ⟨(ad).block, (ad).off + 4, none⟩ = some (.slice B4 x.f4.length d4) ∧ W9.cell? ⟨(ad).block, (ad).off + 5, none⟩ = some (.slice B5 x.f5.length d5) := ⟨(Qa (Qc hbx.out HB_) 4).trans rfl, (he.out.below HB_).1, (he.out.below HB_).2.1, (he.out.below HB_).2.2.1, (he.out.below HB_).2.2.2.1, (he.out.below HB_).2.2.2.2.1, (he.out.below HB_).2.2.2.2.2⟩
   refine Qq (a' := ?_) ?_ ?_
   rotate_left
   ·simp only [Qs, Act.put, List.setIfInBounds_toArray, List.set_cons_zero, List.set_cons_succ]
    rfl
   refine QQ (i := 8) (N := some 5) (bm 10 511) rfl rfl (by kernel_rfl) (by decide) (fun K hK => ?_)
   refine QM (w1 := ?_) (v := ?_) (by rfl) rfl ?_ ?_
   rotate_left 2
   ·go_simp
    constructor
    ·rfl
    ·rfl
   have hbq := Qd (Below.refl W9.heap.size W9) (.cells #[.string ⟨#[]⟩, .slice none 0 0, .int .i64 0] 109)
   have HBn := Qe HB_ hbq
   refine hK.out _ _ ⟨(Qa (Qc hbx.out HBn) 4).trans rfl, (he.out.below HBn).1, (he.out.below HBn).2.1, (he.out.below HBn).2.2.1, (he.out.below HBn).2.2.2.1, (he.out.below HBn).2.2.2.2.1, (he.out.below HBn).2.2.2.2.2⟩ (fun hHeld => ?_)
   clear hK K
   refine Qq (a' := ?_) ?_ ?_
   rotate_left
   ·show Act.put _ (some 5) _ = _
    simp only [Act.put, sA, sB, sC, Qk, Ql]
    rfl
   exact Qq (by first | (simp only [Qs, Act.put, List.setIfInBounds_toArray, List.set_cons_zero, List.set_cons_succ]; done) | (simp only [Qs, Act.put, List.setIfInBounds_toArray, List.set_cons_zero, List.set_cons_succ]; rfl)) (hJ0_5_6_7_8 (s5, A5', n5', c5', b6, W9.heap.size, z5) _ ⟨HBn, ⟨NR.newx hr6.1 _, hr6.2⟩, ⟨Qv W9 _, HB_.size⟩⟩)
 rintro ⟨s5, A5', n5', c5', b6, xb, z5⟩ W9 ⟨HB_, hr6, hx8⟩
 skip
 have hcz0 := (Qa hx8.1 0).trans rfl
 have hcz1 := (Qa hx8.1 1).trans rfl
 have hcz2 := (Qa hx8.1 2).trans rfl
 have hfz0 := Qg hx8.1 0
 have hfz1 := Qg hx8.1 1
 have hfz2 := Qg hx8.1 2
 have hHeld : W9.cell? ⟨w.heap.size, 4, none⟩ = some (.slice (some ad) n4 c4) ∧ W9.cell? ad = some (.int .i64 x.f0) ∧ W9.cell? ⟨(ad).block, (ad).off + 1, none⟩ = some (.string x.f1) ∧ W9.cell? ⟨(ad).block, (ad).off + 2, none⟩ = some (.int .i64 x.f2) ∧ W9.cell? ⟨(ad).block, (ad).off + 3, none⟩ = some (.slice B3 x.f3.length d3) ∧ W9.cell? ⟨(ad).block, (ad).off + 4, none⟩ = some (.slice B4 x.f4.length d4) ∧ W9.cell? ⟨(ad).block, (ad).off + 5, none⟩ = some (.slice B5 x.f5.length d5) := ⟨(Qa (Qc hbx.out HB_) 4).trans rfl, (he.out.below HB_).1, (he.out.below HB_).2.1, (he.out.below HB_).2.2.1, (he.out.below HB_).2.2.2.1, (he.out.below HB_).2.2.2.2.1, (he.out.below HB_).2.2.2.2.2⟩
 refine Qq (a' := ?_) ?_ ?_
 rotate_left
 ·simp only [Qs, Act.put, List.setIfInBounds_toArray, List.set_cons_zero, List.set_cons_succ]
  rfl
 refine Zw (i := 9) (N := none) (bm 10 1023) rfl rfl (by kernel_rfl) (by decide) (fun K hK => ?_)
 refine Vk (w1 := ?_) (by rfl) rfl ?_ ?_
 rotate_left
 ·go_simp
  rfl
 refine hK.out _ _ ?_
 clear hK K
 refine Zx (by kernel_rfl) ?_
 clear hHeld
 have hx8' := hx8.2
 have hx8 := hx8.1
 have hz5 := Qb.mk hr6.2
 have hr6 := hr6.1
 obtain ⟨Wx, hWx⟩ : ∃ Wx, ((W9.setCell ⟨xb, 0, none⟩ (.string ⟨#[]⟩)).setCell ⟨xb, 1, none⟩ (.slice (some ⟨b6, 0, none⟩) 2 2)).setCell ⟨xb, 2, none⟩ (.int .i64 0) = Wx := ⟨_, rfl⟩
 have hXx : Qb (Wx.heap[xb]? = some (.cells #[.string ⟨#[]⟩, .slice (some ⟨b6, 0, none⟩) 2 2, .int .i64 0] 109 (0, 0))) := ⟨by rw [← hWx]; exact QP (QP (QP hx8 0 _ rfl) 1 _ rfl) 2 _ rfl⟩
 have hrX : Qb (NR Wx W0.heap.size (some xb) (some ⟨b6, 0, none⟩) 2 2 (4 + 3 + 0 + (s5.size + 3 + z5))) := ⟨by rw [← hWx]; exact ((hr6.far (p := ⟨xb, 0, none⟩) (.inr rfl) _).far (p := ⟨xb, 1, none⟩) (.inr rfl) _).far (p := ⟨xb, 2, none⟩) (.inr rfl) _⟩
 have hBx : Qb (Below W0.heap.size W0 Wx) := ⟨by rw [← hWx]; exact ((HB_.setCell (p := ⟨xb, 0, none⟩) hx8' _).setCell (p := ⟨xb, 1, none⟩) hx8' _).setCell (p := ⟨xb, 2, none⟩) hx8' _⟩
 have hsx : Qb (xb + 1 ≤ Wx.heap.size ∧ W0.heap.size ≤ xb) := ⟨(Array.getElem?_eq_some_iff.1 hXx.out).1, hx8'⟩
 rw [hWx]
 clear hWx hr6 HB_ hx8 hx8'
 have k5 := (Qa (Qc hbx.out hBx.out) 5).trans rfl
 go_wp2
 go_loopg [6] (n5 + 1) (fun kq v6 w' => ∃ (i m c z : Nat) (A : Option Addr), v6 = .int .i64 (i : Int) ∧ i + kq = n5 + 1 ∧ 1 ≤ kq ∧ Qb (m ≤ i + 2) ∧ Qb (w'.heap[xb]? = some (.cells #[.string ⟨#[]⟩, .slice A m c, .int .i64 0] 109 (0, 0))) ∧ Qb (NR w' W0.heap.size (some xb) A m c z) ∧ Qb (z ≤ 10 + eB x + aBL (la.take i)) ∧ Qb (Below W0.heap.size W0 w') ∧ Qb (xb + 1 ≤ w'.heap.size ∧ W0.heap.size ≤ xb))
 case atStart => exact ⟨0, 2, 2, _, _, rfl, by omega, by omega, ⟨by omega⟩, hXx, hrX, ⟨by have := hz5.out; omega⟩, hBx, hsx⟩
 case round =>
  obtain ⟨i, m, c, z, A, rfl, hi, hk, hm, hX, hr, hz, hB, hs⟩ := hrel
  have hXb := hX
  have hrow := hr
  have hxs := hs
  have hBr := hB
  have hms : Qb (m ≤ 200000000000) := ⟨by have h1 := hm.out; have h2 := hn5.out; omega⟩
  have hgr := Qb.mk (GG.below hg0.out hBr.out)
  clear hX hr hs hB hXx hrX hBx hsx k5
  have k5 := (Qa (Qc hbx.out hBr.out) 5).trans rfl
  by_cases hlt : i < n5
  ·have hli : i < la.length := by have := hn5.out; omega
   have hxi : la[i]? = some la[i] := List.getElem?_eq_getElem hli
   have ha := ha _ (List.getElem_mem hli)
   generalize la[i] = a at hxi ha
   obtain ⟨ada, B3, d3, B7, d7, B8, d8, B9, d9, rfl, he, g3, g7, g8, g9⟩ := elem40 (Kd.Qj hC.out hBr.out) i hxi
   have he := Qb.mk he
   have h3 := Qb.mk g3
   have h7 := Qb.mk g7
   have h8 := Qb.mk g8
   have h9 := Qb.mk g9
   clear g3 g7 g8 g9
   have p0 : (0 : Int) ≤ (i : Int) := by omega
   have p1 : (i : Int) < (n5 : Int) := by omega
   have q1 : decide ((i : Int) < (n5 : Int)) = true := decide_eq_true p1
   go_wp2
   have HB_ : Below wr.heap.size wr wr.drew := Qi (Below.refl _ _)
   have hg9 := Qb.mk (GG.below hgr.out HB_)
   refine QZ (n := 21) (S := fun w' => w'.cell? ⟨xb, 1, none⟩ = some (.slice A m c) ∧ w'.cell? ⟨w.heap.size, 5, none⟩ = some (.slice (some ada) n5 c5) ∧ w'.cell? (ada.add (i * 10)) = some (.int .i64 a.f0) ∧ w'.cell? ⟨((ada.add (i * 10))).block, ((ada.add (i * 10))).off + 1, none⟩ = some (.string a.f1) ∧ w'.cell? ⟨((ada.add (i * 10))).block, ((ada.add (i * 10))).off + 2, none⟩ = some (.int .i64 a.f2) ∧ w'.cell? ⟨((ada.add (i * 10))).block, ((ada.add (i * 10))).off + 3, none⟩ = some (.slice B3 a.f3.length d3) ∧ w'.cell? ⟨((ada.add (i * 10))).block, ((ada.add (i * 10))).off + 4, none⟩ = some (.int .i64 a.f4.f0) ∧ w'.cell? ⟨((ada.add (i * 10))).block, ((ada.add (i * 10))).off + 5, none⟩ = some (.string a.f4.f1) ∧ w'.cell? ⟨((ada.add (i * 10))).block, ((ada.add (i * 10))).off + 6, none⟩ = some (.int .i64 a.f4.f2) ∧ w'.cell? ⟨((ada.add (i * 10))).block, ((ada.add (i * 10))).off + 7, none⟩ = some (.slice B7 a.f4.f3.length d7) ∧ w'.cell? ⟨((ada.add (i * 10))).block, ((ada.add (i * 10))).off + 8, none⟩ = some (.slice B8 a.f4.f4.length d8) ∧ w'.cell? ⟨((ada.add (i * 10))).block, ((ada.add (i * 10))).off + 9, none⟩ = some (.slice B9 a.f4.f5.length d9)) (ds := [18, 20]) (bm 21 0) (by kernel_rfl) rfl rfl ⟨(Qa (Qc hXb.out HB_) 1).trans rfl, (Qa (Qc (Qc hbx.out hBr.out) HB_) 5).trans rfl, (he.out.below HB_).1, (he.out.below HB_).2.1, (he.out.below HB_).2.2.1, (he.out.below HB_).2.2.2.1, (he.out.below HB_).2.2.2.2.1, (he.out.below HB_).2.2.2.2.2.1, (he.out.below HB_).2.2.2.2.2.2.1, (he.out.below HB_).2.2.2.2.2.2.2.1, (he.out.below HB_).2.2.2.2.2.2.2.2.1, (he.out.below HB_).2.2.2.2.2.2.2.2.2⟩ (fun hHeld => ?_)
   generalize wr.drew = W9 at *
   refine Q4 (i := 0) (N := some 97) (v := ?_) (a' := ?_) (bm 21 1) rfl rfl (by kernel_rfl) (fun _ _ _ h => h) (Or.inl ⟨by rfl, ?_⟩) ?_ ?_
   rotate_left
   ·intro w'
    go_simp
    with_reducible rfl
   rotate_left
   ·simp only [Act.put, sA, sB, sC, Qk, Ql]
    rfl
   refine Q4 (i := 2) (N := some 99) (v := ?_) (a' := ?_) (bm 21 5) rfl rfl (by kernel_rfl) (fun _ _ _ h => h) (Or.inl ⟨by rfl, ?_⟩) ?_ ?_
   rotate_left
   ·intro w'
    go_simp
    with_reducible rfl
   rotate_left
   ·simp only [Act.put, sA, sB, sC, Qk, Ql]
    rfl
   refine Q4 (i := 4) (N := some 101) (v := ?_) (a' := ?_) (bm 21 21) rfl rfl (by kernel_rfl) (fun _ _ _ h => h) (Or.inl ⟨by rfl, ?_⟩) ?_ ?_
   rotate_left
   ·intro w'
    go_simp
    with_reducible rfl
   rotate_left
   ·simp only [Act.put, sA, sB, sC, Qk, Ql]
    rfl
   refine Q4 (i := 8) (N := some 105) (v := ?_) (a' := ?_) (bm 21 277) rfl rfl (by kernel_rfl) (fun _ _ _ h => h) (Or.inl ⟨by rfl, ?_⟩) ?_ ?_
   rotate_left
   ·intro w'
    go_simp
    with_reducible rfl
   rotate_left
   ·simp only [Act.put, sA, sB, sC, Qk, Ql]
    rfl
   refine Q4 (i := 10) (N := some 107) (v := ?_) (a' := ?_) (bm 21 1301) rfl rfl (by kernel_rfl) (fun _ _ _ h => h) (Or.inl ⟨by rfl, ?_⟩) ?_ ?_
   rotate_left
   ·intro w'
    go_simp
    with_reducible rfl
   rotate_left
   ·simp only [Act.put, sA, sB, sC, Qk, Ql]
    rfl
   refine QE (i := 1) (N := some 98) (v := ?_) (a' := ?_) (bm 21 1303) rfl rfl (by kernel_rfl) (fun _ _ _ h => h) (Or.inl ⟨by rfl, ?_⟩) hHeld ?_ ?_
   rotate_left
   ·rintro w' ⟨s0, s1, s2, s3, s4, s5, s6, s7, s8, s9, s10, s11⟩
    go_simp
    with_reducible rfl
   rotate_left
   ·simp only [Act.put, sA, sB, sC, Qk, Ql]
    rfl
   refine QE (i := 3) (N := some 100) (v := ?_) (a' := ?_) (bm 21 1311) rfl rfl (by kernel_rfl) (fun _ _ _ h => h) (Or.inl ⟨by rfl, ?_⟩) hHeld ?_ ?_
   rotate_left
   ·rintro w' ⟨s0, s1, s2, s3, s4, s5, s6, s7, s8, s9, s10, s11⟩
    go_simp
    with_reducible rfl
   rotate_left
   ·simp only [Act.put, sA, sB, sC, Qk, Ql]
    rfl
   refine Q4 (i := 5) (N := some 102) (v := ?_) (a' := ?_) (bm 21 1343) rfl rfl (by kernel_rfl) (fun _ _ _ h => h) (Or.inl ⟨by rfl, ?_⟩) ?_ ?_
   rotate_left
   ·intro w'
    go_simp
    with_reducible rfl
   rotate_left
   ·simp only [Act.put, sA, sB, sC, Qk, Ql]
    rfl
   refine QE (i := 6) (N := some 103) (v := ?_) (a' := ?_) (bm 21 1407) rfl rfl (by kernel_rfl) (fun _ _ _ h => h) (Or.inl ⟨by rfl, ?_⟩) hHeld ?_ ?_
   rotate_left
   ·rintro w' ⟨s0, s1, s2, s3, s4, s5, s6, s7, s8, s9, s10, s11⟩
    go_simp
    with_reducible rfl
   rotate_left
   ·simp only [Act.put, sA, sB, sC, Qk, Ql]
    rfl
   refine QE (i := 9) (N := some 106) (v := ?_) (a' := ?_) (bm 21 1919) rfl rfl (by kernel_rfl) (fun _ _ _ h => h) (Or.inl ⟨by rfl, ?_⟩) hHeld ?_ ?_
   rotate_left
   ·rintro w' ⟨s0, s1, s2, s3, s4, s5, s6, s7, s8, s9, s10, s11⟩
    go_simp
    with_reducible rfl
   rotate_left
   ·simp only [Act.put, sA, sB, sC, Qk, Ql]
    rfl
   refine Q4 (i := 11) (N := some 108) (v := ?_) (a' := ?_) (bm 21 3967) rfl rfl (by kernel_rfl) (fun _ _ _ h => h) (Or.inl ⟨by rfl, ?_⟩) ?_ ?_
   rotate_left
   ·intro w'
    go_simp
    with_reducible rfl
   rotate_left
   ·simp only [Act.put, sA, sB, sC, Qk, Ql]
    rfl
   refine Q4 (i := 12) (N := some 109) (v := ?_) (a' := ?_) (bm 21 8063) rfl rfl (by kernel_rfl) (fun _ _ _ h => h) (Or.inl ⟨by rfl, ?_⟩) ?_ ?_
   rotate_left
   ·intro w'
    go_simp
    with_reducible rfl
   rotate_left
   ·simp only [Act.put, sA, sB, sC, Qk, Ql]
    rfl
   refine QE (i := 13) (N := some 110) (v := ?_) (a' := ?_) (bm 21 16255) rfl rfl (by kernel_rfl) (fun _ _ _ h => h) (Or.inl ⟨by rfl, ?_⟩) hHeld ?_ ?_
   rotate_left
   ·rintro w' ⟨s0, s1, s2, s3, s4, s5, s6, s7, s8, s9, s10, s11⟩
    go_simp
    with_reducible rfl
   rotate_left
   ·simp only [Act.put, sA, sB, sC, Qk, Ql]
    rfl
   refine QQ (i := 7) (N := some 104) (bm 21 16383) rfl rfl (by kernel_rfl) (by decide) (fun K hK => ?_)
   refine QI Tryd.func97 (by kernel_rfl) rfl #[.agg #[.int .i64 a.f0, .string a.f1, .int .i64 a.f2, .slice B3 a.f3.length d3, .int .i64 a.f4.f0, .string a.f4.f1, .int .i64 a.f4.f2, .slice B7 a.f4.f3.length d7, .slice B8 a.f4.f4.length d8, .slice B9 a.f4.f5.length d9]] (by rfl) rfl rfl (by simp only [List.map_toArray, List.map_cons, List.map_nil]; rfl) ?_
   (with_reducible refine (altNode_calls a ha.2.1 ha.2.2.1 ha.2.2.2 W9 hg9.out (Kd.Qj h3.out HB_) _ _ _).mono ?_)
   rintro e w4 ⟨s4, A4', n4', c4', z4, rfl, hz4, hc4, hn4, hbq4⟩
   refine ⟨_, rfl, ?_⟩
   have hz4 := Qb.mk hz4
   have HB4 := Qe HB_ hbq4
   refine hK.out _ _ ⟨(Qa (Qc hXb.out HB4) 1).trans rfl, (Qa (Qc (Qc hbx.out hBr.out) HB4) 5).trans rfl, (he.out.below HB4).1, (he.out.below HB4).2.1, (he.out.below HB4).2.2.1, (he.out.below HB4).2.2.2.1, (he.out.below HB4).2.2.2.2.1, (he.out.below HB4).2.2.2.2.2.1, (he.out.below HB4).2.2.2.2.2.2.1, (he.out.below HB4).2.2.2.2.2.2.2.1, (he.out.below HB4).2.2.2.2.2.2.2.2.1, (he.out.below HB4).2.2.2.2.2.2.2.2.2⟩ (fun hHeld => ?_)
   clear hK K
   refine Qq (a' := ?_) ?_ ?_
   rotate_left
   ·show Act.put _ (some 104) _ = _
    simp only [Act.put, sA, sB, sC, Qk, Ql]
    rfl
   refine QQ (i := 14) (N := some 111) (bm 21 32767) rfl rfl (by kernel_rfl) (by decide) (fun K hK => ?_)
   refine QI Tryd.func86 (by kernel_rfl) rfl #[.agg #[.int .i64 a.f4.f0, .string a.f4.f1, .int .i64 a.f4.f2, .slice B7 a.f4.f3.length d7, .slice B8 a.f4.f4.length d8, .slice B9 a.f4.f5.length d9]] (by rfl) rfl rfl (by simp only [List.map_toArray, List.map_cons, List.map_nil]; rfl) ?_
   (with_reducible refine (ha.1.at w4 (GG.below hgr.out HB4) (Kd.Qj h7.out HB4) (Kd.Qj h8.out HB4) (Kd.Qj h9.out HB4)).mono ?_)
   rintro e w5 ⟨s5', A5', n5', c5', z5', rfl, hz5', hc5, hn5', hbq5⟩
   refine ⟨_, rfl, ?_⟩
   have hz5' := Qb.mk hz5'
   have HB5 := Qe HB4 hbq5
   refine hK.out _ _ ⟨(Qa (Qc hXb.out HB5) 1).trans rfl, (Qa (Qc (Qc hbx.out hBr.out) HB5) 5).trans rfl, (he.out.below HB5).1, (he.out.below HB5).2.1, (he.out.below HB5).2.2.1, (he.out.below HB5).2.2.2.1, (he.out.below HB5).2.2.2.2.1, (he.out.below HB5).2.2.2.2.2.1, (he.out.below HB5).2.2.2.2.2.2.1, (he.out.below HB5).2.2.2.2.2.2.2.1, (he.out.below HB5).2.2.2.2.2.2.2.2.1, (he.out.below HB5).2.2.2.2.2.2.2.2.2⟩ (fun hHeld => ?_)
   clear hK K
   refine Qq (a' := ?_) ?_ ?_
   rotate_left
   ·show Act.put _ (some 111) _ = _
    simp only [Act.put, sA, sB, sC, Qk, Ql]
    rfl
   refine QQ (i := 15) (N := some 112) (bm 21 65535) rfl rfl (by kernel_rfl) (by decide) (fun K hK => ?_)
   refine QM (w1 := ?_) (v := ?_) (by rfl) rfl ?_ ?_
   rotate_left 2
   ·go_simp
    constructor
    ·rfl
    ·rfl
   have HB6 := Qd HB5 (.cells #[.string s4, .slice A4' n4' c4', .int .i64 0, .string s5', .slice A5' n5' c5', .int .i64 0] 109)
   have hbk := Qv w5 (.cells #[.string s4, .slice A4' n4' c4', .int .i64 0, .string s5', .slice A5' n5' c5', .int .i64 0] 109 (0, 0))
   refine hK.out _ _ ⟨(Qa (Qc hXb.out HB6) 1).trans rfl, (Qa (Qc (Qc hbx.out hBr.out) HB6) 5).trans rfl, (he.out.below HB6).1, (he.out.below HB6).2.1, (he.out.below HB6).2.2.1, (he.out.below HB6).2.2.2.1, (he.out.below HB6).2.2.2.2.1, (he.out.below HB6).2.2.2.2.2.1, (he.out.below HB6).2.2.2.2.2.2.1, (he.out.below HB6).2.2.2.2.2.2.2.1, (he.out.below HB6).2.2.2.2.2.2.2.2.1, (he.out.below HB6).2.2.2.2.2.2.2.2.2⟩ (fun hHeld => ?_)
   clear hK K
   refine Qq (a' := ?_) ?_ ?_
   rotate_left
   ·show Act.put _ (some 112) _ = _
    simp only [Act.put, sA, sB, sC, Qk, Ql]
    rfl
   refine QQ (i := 16) (N := some 113) (bm 21 131071) rfl rfl (by kernel_rfl) (by decide) (fun K hK => ?_)
   refine QI Tryd.func81 (by kernel_rfl) rfl #[.slice (some ⟨w5.heap.size, 0, none⟩) 2 2] (by rfl) rfl rfl (by simp only [List.map_toArray, List.map_cons, List.map_nil]; rfl) ?_
   (with_reducible refine (Z7 _ _ _ _).mono ?_)
   rintro e w7 ⟨rfl, hbq7⟩
   refine ⟨_, rfl, ?_⟩
   have HB7 := Qe HB6 hbq7
   have hn7 : NL w7 W9.heap.size (some ⟨w5.heap.size, 0, none⟩) 2 (s4.size + 3 + z4 + (s5'.size + 3 + z5')) := NL.two (Qc hbk hbq7) (Nat.le_trans hbq4.size hbq5.size) (((hn4.below hbq5).below (Qd (Below.refl _ _) _)).below hbq7) hc4 (((hn5'.mono hbq4.size).below (Qd (Below.refl _ _) _)).below hbq7) hc5
   refine hK.out _ _ ⟨(Qa (Qc hXb.out HB7) 1).trans rfl, (Qa (Qc (Qc hbx.out hBr.out) HB7) 5).trans rfl, (he.out.below HB7).1, (he.out.below HB7).2.1, (he.out.below HB7).2.2.1, (he.out.below HB7).2.2.2.1, (he.out.below HB7).2.2.2.2.1, (he.out.below HB7).2.2.2.2.2.1, (he.out.below HB7).2.2.2.2.2.2.1, (he.out.below HB7).2.2.2.2.2.2.2.1, (he.out.below HB7).2.2.2.2.2.2.2.2.1, (he.out.below HB7).2.2.2.2.2.2.2.2.2⟩ (fun hHeld => ?_)
   clear hK K
   refine Qq (a' := ?_) ?_ ?_
   rotate_left
   ·show Act.put _ (some 113) _ = _
    simp only [Act.put, sA, sB, sC, Qk, Ql]
    rfl
   refine QQ (i := 17) (N := some 114) (bm 21 262143) rfl rfl (by kernel_rfl) (by decide) (fun K hK => ?_)
   refine QM (w1 := ?_) (v := ?_) (by rfl) rfl ?_ ?_
   rotate_left 2
   ·go_simp
    constructor
    ·rfl
    ·rfl
   have HBb := Qd HB7 (.cells #[.string ⟨#[]⟩, .slice (some ⟨w5.heap.size, 0, none⟩) 2 2, .int .i64 0] 109)
   refine hK.out _ _ ⟨(Qa (Qc hXb.out HBb) 1).trans rfl, (Qa (Qc (Qc hbx.out hBr.out) HBb) 5).trans rfl, (he.out.below HBb).1, (he.out.below HBb).2.1, (he.out.below HBb).2.2.1, (he.out.below HBb).2.2.2.1, (he.out.below HBb).2.2.2.2.1, (he.out.below HBb).2.2.2.2.2.1, (he.out.below HBb).2.2.2.2.2.2.1, (he.out.below HBb).2.2.2.2.2.2.2.1, (he.out.below HBb).2.2.2.2.2.2.2.2.1, (he.out.below HBb).2.2.2.2.2.2.2.2.2⟩ (fun hHeld => ?_)
   clear hK K
   refine Qq (a' := ?_) ?_ ?_
   rotate_left
   ·show Act.put _ (some 114) _ = _
    simp only [Act.put, sA, sB, sC, Qk, Ql]
    rfl
   refine Zw (i := 18) (N := some 115) (bm 21 524287) rfl rfl (by kernel_rfl) (by decide) (fun K hK => ?_)
   refine ZX (w0 := w7) W0.heap.size (by rfl) (.tmp 98) (.tmp 114) rfl (A := A) (x0 := some xb) (n := m) (c := c) (z := z) (z1 := s4.size + 3 + z4 + (s5'.size + 3 + z5')) (s1 := ⟨#[]⟩) (A1 := some ⟨w5.heap.size, 0, none⟩) (n1 := 2) (c1 := 2) (q := W9.heap.size) rfl rfl (NR.below hrow.out HB7) hn7 (Nat.le_refl _) ?_ ?_ ?_ (Below.refl _ _) ?_ ?_ ?_
   ·intro k hk; have h1 := NR.lt hrow.out k hk; have h2 := HB_.size; omega
   ·have h1 := hxs.out; have h2 := HB_.size; omega
   ·intro y hy; obtain rfl := Option.some.inj hy; have h1 := hxs.out; have h2 := HB_.size; have h3 := HB7.size; omega
   ·have h1 := hxs.out; have h2 := HB7.size; omega
   ·have h1 := hms.out; omega
   intro A6 c6 w6 hr6 hb6 hg6
   have hx5 := Qc hXb.out HB7
   have hx6 := (NR.keep (NR.below hrow.out HB7) hg6 (Array.getElem?_eq_some_iff.1 hx5).1).trans hx5
   have hcz := (Qa hx6 1).trans rfl
   have hfz := Qg hx6 1
   refine hK.out _ _ ?_
   clear hK K
   refine Qq (a' := ?_) ?_ ?_
   rotate_left
   ·show Act.put _ (some 115) _ = _
    simp only [Act.put, sA, sB, sC, Qk, Ql]
    rfl
   refine Q4 (i := 19) (N := some 116) (v := ?_) (a' := ?_) (bm 21 1048575) rfl rfl (by kernel_rfl) (fun _ _ _ h => h) (Or.inl ⟨by rfl, ?_⟩) ?_ ?_
   rotate_left
   ·intro w'
    go_simp
    with_reducible rfl
   rotate_left
   ·simp only [Act.put, sA, sB, sC, Qk, Ql]
    rfl
   refine Zw (i := 20) (N := none) (bm 21 2097151) rfl rfl (by kernel_rfl) (by decide) (fun K hK => ?_)
   refine Vk (w1 := ?_) (by rfl) rfl ?_ ?_
   rotate_left
   ·go_simp
    rfl
   refine hK.out _ _ ?_
   clear hK K
   refine Zx (by kernel_rfl) ?_
   obtain ⟨W7, hW7⟩ : ∃ W7, w6.setCell ⟨xb, 1, none⟩ (.slice A6 (m + 1) c6) = W7 := ⟨_, rfl⟩
   have hX7 : Qb (W7.heap[xb]? = some (.cells #[.string ⟨#[]⟩, .slice A6 (m + 1) c6, .int .i64 0] 109 (0, 0))) := ⟨by rw [← hW7]; exact QP hx6 1 _ rfl⟩
   have hr7 : Qb (NR W7 W0.heap.size (some xb) A6 (m + 1) c6 (z + ((⟨#[]⟩ : ByteArray).size + 3 + (s4.size + 3 + z4 + (s5'.size + 3 + z5'))))) := ⟨by rw [← hW7]; exact NR.far hr6 (.inr rfl) _⟩
   have hB7 : Qb (Below W0.heap.size W0 W7) := ⟨by rw [← hW7]; exact ((hBr.out.trans (HB7.mono hBr.out.size)).trans hb6).setCell (p := ⟨xb, 1, none⟩) (by have h1 := hxs.out; show W0.heap.size ≤ xb; omega) _⟩
   have hs7 : Qb (xb + 1 ≤ W7.heap.size ∧ W0.heap.size ≤ xb) := ⟨by have h1 := (Array.getElem?_eq_some_iff.1 hX7.out).1; have h2 := hxs.out; omega⟩
   rw [hW7]
   clear hHeld
   have hjn : Value.int .i64 (wrap64 ((i : Int) + 1)) = .int .i64 ((i + 1 : Nat) : Int) := by rw [show wrap64 ((i : Int) + 1) = (i : Int) + 1 by have h2 := hn5.out; unfold wrap64; omega]; rfl
   have hi7 : i + 1 + (gk - 1) = n5 + 1 ∧ 1 ≤ gk - 1 ∧ gk - 1 < gk := by omega
   have hm7 : Qb (m + 1 ≤ i + 1 + 2) := ⟨by have := hm.out; omega⟩
   have hz7 : Qb (z + ((⟨#[]⟩ : ByteArray).size + 3 + (s4.size + 3 + z4 + (s5'.size + 3 + z5'))) ≤ 10 + eB x + aBL (la.take (i + 1))) := ⟨by rw [aBL_take hxi]; have h1 := hz.out; have h2 := hz4.out; have h3 := hz5'.out; have h4 := sz0; have h5 := aB_ge a; omega⟩
   clear q1 p0 p1
   go_wp2
   go_roundg (gk - 1)
   case measure => exact hi7.2.2
   case rel => exact ⟨i + 1, m + 1, c6, _, A6, by first | exact hjn | rfl, hi7.1, hi7.2.1, hm7, hX7, hr7, hz7, hB7, hs7⟩
  ·have q1 : decide ((i : Int) < (n5 : Int)) = false := decide_eq_false (by omega)
   have x0 := (Qa hXb.out 0).trans rfl
   have x1 := (Qa hXb.out 1).trans rfl
   have x2 := (Qa hXb.out 2).trans rfl
   have hr1 := Qc hrx.out hBr.out
   have j0 := (Qa hr1 0).trans rfl
   have j1 := (Qa hr1 1).trans rfl
   have j2 := (Qa hr1 2).trans rfl
   have z0 := Qg hr1 0
   have z1 := Qg hr1 1
   have z2 := Qg hr1 2
   have hl5 : Qb (w.heap.size + 1 < W0.heap.size ∧ w.heap.size ≤ W0.heap.size) := ⟨by have h1 := hl1.out; have h2 := hxs.out; omega⟩
   go_wp2
   refine bodyPost_ret (v := .agg #[.string ⟨#[]⟩, .slice A m c, .int .i64 0]) (by simp [results, Tryd.results86, go_sem, *]) rfl ⟨_, A, _, c, z, rfl, by have h1 := hz.out; have h2 := aBL_le la i; rw [sz0]; omega, hrow.out.list.2, ?_, ?_⟩
   ·exact ((((hrow.out.list.1).far (p := ⟨w.heap.size + 1, 0, none⟩) (.inl hl5.out.1) _).far (p := ⟨w.heap.size + 1, 1, none⟩) (.inl hl5.out.1) _).far (p := ⟨w.heap.size + 1, 2, none⟩) (.inl hl5.out.1) _).list.mono hl5.out.2
   ·exact (((HB0.out.trans (hBr.out.mono HB0.out.size)).setCell (p := ⟨w.heap.size + 1, 0, none⟩) (Nat.le_succ _) _).setCell (p := ⟨w.heap.size + 1, 1, none⟩) (Nat.le_succ _) _).setCell (p := ⟨w.heap.size + 1, 2, none⟩) (Nat.le_succ _) _
end Go.Proofs.YtlgpoigbadajnaaDoor.DepA.Z
