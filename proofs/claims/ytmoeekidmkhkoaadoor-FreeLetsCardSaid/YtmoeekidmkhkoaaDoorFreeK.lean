/- gristmillref5.exprNode: a case; all ways together. Condition: the library's table of powers of ten reads as it is laid. -/
import Derived.Test.YtmoeekidmkhkoaaDoorFreeH
namespace Go.Proofs.YtmoeekidmkhkoaaDoor.FreeA
open Go.RowKit Go.Proofs.YtmoeekidmkhkoaaDoorW.PrintWords Go.Proofs.YtmoeekidmkhkoaaDoorW.PrintLast Go.Proofs.YtmoeekidmkhkoaaDoorW.PrintMore Go.Proofs.YtmoeekidmkhkoaaDoor.PFreeA
set_option linter.unusedVariables false
set_option linter.unusedSimpArgs false
theorem NX.newx {W : World} {b n : Nat} {A : Option Addr} (h : NX W b none A n) (o : Obj) : NX (W.alloc o) b (some W.heap.size) A n :=
  h.elim fun xs h => ⟨xs, Kd.F_alloc (Kd.F_mono (Kd.F_bound h) (fun k hk => ⟨hk.1.1, fun e => by have := Option.some.inj e; have := hk.2; omega⟩)) o⟩
theorem NR.newx {W : World} {b n c : Nat} {A : Option Addr} (h : NR W b none A n c) (o : Obj) : NR (W.alloc o) b (some W.heap.size) A n c :=
  h.elim fun xs h => ⟨xs, h.1, Kd.N_alloc (Kd.N_mono (Kd.N_bound h.2) (fun k hk => ⟨hk.1.1, fun e => by have := Option.some.inj e; have := hk.2; omega⟩)) o⟩
theorem NL.nx {W : World} {b q n : Nat} {x : Option Nat} {A : Option Addr} (h : NL W q A n) (hbq : b ≤ q) (hx : ∀ y, x = some y → y < q) : NX W b x A n :=
  h.elim fun xs h => ⟨xs, Kd.F_mono h (fun k hk => ⟨Nat.le_trans hbq hk, fun e => by have := hx k e.symm; omega⟩)⟩
theorem NR.litX {W : World} {b : Nat} {x : Option Nat} {s1 s2 : ByteArray} {A2 : Option Addr} {n2 c2 : Nat} (h2 : NX W b x A2 n2) (hc2 : n2 ≤ c2) (hb : b ≤ W.heap.size) (hx : some W.heap.size ≠ x) :
    NR (W.alloc (.cells #[.string s1, .slice none 0 0, .int .i64 0, .string s2, .slice A2 n2 c2, .int .i64 0] 56)) b x (some ⟨W.heap.size, 0, none⟩) 2 2 := by
  obtain ⟨zs, hz⟩ := h2
  exact NR.lit (xs := [⟨s1, [], 0⟩, ⟨s2, zs, 0⟩]) (inner := [.string s1, .slice none 0 0, .int .i64 0, .string s2, .slice A2 n2 c2, .int .i64 0]) (okp := fun k => b ≤ k ∧ some k ≠ x) (Reps.c3 (nodeK (Kd.F_nil _ _ _) (Nat.le_refl _) s1) (Reps.c3 (nodeK hz hc2 s2) (Reps.none _ _))) (fun k hk => hk) ⟨hb, hx⟩ (by simp)
def AC (W : World) (p : Addr) (x : S40) (B3 B7 B8 B9 : Option Addr) (d3 d7 d8 d9 : Nat) : Prop := W.cell? p = some (.int .i64 x.f0) ∧ W.cell? ⟨p.block, p.off + 1, none⟩ = some (.string x.f1) ∧ W.cell? ⟨p.block, p.off + 2, none⟩ = some (.int .i64 x.f2) ∧ W.cell? ⟨p.block, p.off + 3, none⟩ = some (.slice B3 x.f3.length d3) ∧ W.cell? ⟨p.block, p.off + 4, none⟩ = some (.int .i64 x.f4.f0) ∧ W.cell? ⟨p.block, p.off + 5, none⟩ = some (.string x.f4.f1) ∧ W.cell? ⟨p.block, p.off + 6, none⟩ = some (.int .i64 x.f4.f2) ∧ W.cell? ⟨p.block, p.off + 7, none⟩ = some (.slice B7 x.f4.f3.length d7) ∧ W.cell? ⟨p.block, p.off + 8, none⟩ = some (.slice B8 x.f4.f4.length d8) ∧ W.cell? ⟨p.block, p.off + 9, none⟩ = some (.slice B9 x.f4.f5.length d9)
theorem elem40 {W : World} {A : Option Addr} {n : Nat} {l : List S40} (hC : k40.C W A n l) (i : Nat) {x : S40} (hx : l[i]? = some x) : ∃ ad B3 d3 B7 d7 B8 d8 B9 d9, A = some ad ∧ AC W (ad.add (i * 10)) x B3 B7 B8 B9 d3 d7 d8 d9 ∧ Kd.string.C W B3 x.f3.length x.f3 ∧ Kd.string.C W B7 x.f4.f3.length x.f4.f3 ∧ k33.C W B8 x.f4.f4.length x.f4.f4 ∧ k40.C W B9 x.f4.f5.length x.f4.f5 := by
  have hi := (List.getElem?_eq_some_iff.1 hx).1
  obtain ⟨ad, B3, d3, B7, d7, B8, d8, B9, d9, e, c0, c1, c2, c3, c4, c5, c6, c7, c8, c9, l3, g3, l7, g7, l8, g8, l9, g9⟩ := at_T40 hC (i : Int) (by omega) (by have := hC.1; omega)
  have hr : rd_T40 l (i : Int) = x := by
    unfold rd_T40
    rw [Int.toNat_natCast, List.getD_eq_getElem?_getD, hx]
    rfl
  rw [hr] at c0 c1 c2 c3 c4 c5 c6 c7 c8 c9 l3 g3 l7 g7 l8 g8 l9 g9
  rw [Int.toNat_natCast] at c0 c1 c2 c3 c4 c5 c6 c7 c8 c9
  exact ⟨ad, B3, d3, B7, d7, B8, d8, B9, d9, e, ⟨c0, c1, c2, c3, c4, c5, c6, c7, c8, c9⟩, g3, g7, g8, g9⟩
theorem AC.below {W W1 : World} {p : Addr} {x : S40} {B3 B7 B8 B9 : Option Addr} {d3 d7 d8 d9 : Nat} (h : AC W p x B3 B7 B8 B9 d3 d7 d8 d9) (hb : Below W.heap.size W W1) : AC W1 p x B3 B7 B8 B9 d3 d7 d8 d9 := by
  obtain ⟨h0, h1, h2, h3, h4, h5, h6, h7, h8, h9⟩ := h
  have f : ∀ {a v}, W.cell? a = some v → W1.cell? a = some v := fun h => (hb.cell (World.block_lt_of_cell? _ _ h)).trans h
  exact ⟨f h0, f h1, f h2, f h3, f h4, f h5, f h6, f h7, f h8, f h9⟩
set_option maxHeartbeats 8000000 in
set_option maxRecDepth 100000 in
theorem exprNode_case (f1 : ByteArray) (f2 : Int) (w : World) (hg : GG w) {A3 A4 A5 : Option Addr} {n3 c3 n4 c4 n5 c5 : Nat} (l : List S33) (x : S33) (hx : XN x) (hi : l[0]? = some x) (hC4 : k33.C w A4 n4 l) (la : List S40) (hla : la.length ≤ 100000000000) (ha : ∀ a ∈ la, XN a.f4 ∧ -9223372036854775808 ≤ a.f2 ∧ a.f2 ≤ 9223372036854775807 ∧ a.f3.length ≤ 100000000000) (hC5 : k40.C w A5 n5 la) :
    Calls Tryd.prog 37 #[.agg #[.int .i64 8, .string f1, .int .i64 f2, .slice A3 n3 c3, .slice A4 n4 c4, .slice A5 n5 c5]] w (ND w) := by
  have E : ∀ W : World, ∀ o : Obj, (W.alloc o).heap.size = W.heap.size + 1 := fun W o => Array.size_push _
  obtain ⟨W0, hW0⟩ : ∃ W0, (w.alloc (.cells #[.int .i64 8, .string f1, .int .i64 f2, .slice A3 n3 c3, .slice A4 n4 c4, .slice A5 n5 c5] 33)).alloc (.cells #[.string ⟨#[]⟩, .slice none 0 0, .int .i64 0] 56) = W0 := ⟨_, rfl⟩
  have HB0 : Aside0 (Below w.heap.size w W0) := ⟨by rw [← hW0]; exact below_alloc (below_alloc (Below.refl _ _) _) _⟩
  have hbx : Aside0 (W0.heap[w.heap.size]? = some (.cells #[.int .i64 8, .string f1, .int .i64 f2, .slice A3 n3 c3, .slice A4 n4 c4, .slice A5 n5 c5] 33 (0, 0))) := ⟨by rw [← hW0]; exact (Below.heap_alloc _ _ _ (by rw [E]; omega)).trans (blk_new w _)⟩
  have hrx : Aside0 (W0.heap[w.heap.size + 1]? = some (.cells #[.string ⟨#[]⟩, .slice none 0 0, .int .i64 0] 56 (0, 0))) := ⟨by rw [← hW0, ← E w]; exact blk_new _ _⟩
  have hl1 : Aside0 (W0.heap.size = w.heap.size + 2) := ⟨by rw [← hW0, E, E]⟩
  have hg0 := Aside0.mk (GG.below hg HB0.out)
  have hp4 : 0 < n4 := by have h1 := (List.getElem?_eq_some_iff.1 hi).1; have h2 := hC4.1; omega
  obtain ⟨ad, B3, d3, B4, d4, B5, d5, rfl, he, g3, g4, g5, _, _, _⟩ := elem33 (Kd.C_below hC4 HB0.out) 0 hi
  rw [show ad.add (0 * 6) = ad by simp [Addr.add]] at he
  have he := Aside0.mk he
  have h3 := Aside0.mk g3
  have h4 := Aside0.mk g4
  have h5 := Aside0.mk g5
  clear g3 g4 g5 hC4
  have hC := Aside0.mk (Kd.C_below hC5 HB0.out)
  have hn5 : Aside0 (la.length = n5) := ⟨hC5.1⟩
  clear hC5
  have k0 := (blk_cell hbx.out 0).trans rfl
  have k1 := (blk_cell hbx.out 1).trans rfl
  have k2 := (blk_cell hbx.out 2).trans rfl
  have k3 := (blk_cell hbx.out 3).trans rfl
  have k4 := (blk_cell hbx.out 4).trans rfl
  have k5 := (blk_cell hbx.out 5).trans rfl
  go_enter Tryd.func37, Tryd.ntmps37
  go_wp2
  (try rw [hW0])
  clear hW0 k0 k1 k2 k3 k4 k5
  have HB_ : Below W0.heap.size W0 W0.drew := below_drew1 (Below.refl _ _)
  refine start_ (n := 10) (S := fun w' => w'.cell? ⟨w.heap.size, 4, none⟩ = some (.slice (some ad) n4 c4) ∧ w'.cell? ad = some (.int .i64 x.f0) ∧ w'.cell? ⟨(ad).block, (ad).off + 1, none⟩ = some (.string x.f1) ∧ w'.cell? ⟨(ad).block, (ad).off + 2, none⟩ = some (.int .i64 x.f2) ∧ w'.cell? ⟨(ad).block, (ad).off + 3, none⟩ = some (.slice B3 x.f3.length d3) ∧ w'.cell? ⟨(ad).block, (ad).off + 4, none⟩ = some (.slice B4 x.f4.length d4) ∧ w'.cell? ⟨(ad).block, (ad).off + 5, none⟩ = some (.slice B5 x.f5.length d5)) (ds := [9]) #[false, false, false, false, false, false, false, false, false, false] (by kernel_rfl) rfl rfl ⟨(blk_cell (blk_below hbx.out HB_) 4).trans rfl, (he.out.below HB_).1, (he.out.below HB_).2.1, (he.out.below HB_).2.2.1, (he.out.below HB_).2.2.2.1, (he.out.below HB_).2.2.2.2.1, (he.out.below HB_).2.2.2.2.2⟩ (fun hHeld => ?_)
  generalize W0.drew = W9 at *
  refine pure_ (i := 1) (N := some 83) (v := ?_) (a' := ?_) #[false, true, false, false, false, false, false, false, false, false] rfl rfl (by kernel_rfl) (fun _ _ _ h => h) (Or.inl ⟨by rfl, ?_⟩) ?_ ?_
  rotate_left
  · intro w'
    go_simp
    with_reducible rfl
  rotate_left
  · simp only [Act.put, List.setIfInBounds_toArray, List.set_cons_zero, List.set_cons_succ, i64_w, i32_w]
    rfl
  refine take_ (i := 2) (N := some 84) (v := ?_) (a' := ?_) #[false, true, true, false, false, false, false, false, false, false] rfl rfl (by kernel_rfl) (fun _ _ _ h => h) (Or.inl ⟨by rfl, ?_⟩) hHeld ?_ ?_
  rotate_left
  · rintro w' ⟨s0, s1, s2, s3, s4, s5, s6⟩
    go_simp
    with_reducible rfl
  rotate_left
  · simp only [Act.put, List.setIfInBounds_toArray, List.set_cons_zero, List.set_cons_succ, i64_w, i32_w]
    rfl
  refine pure_ (i := 3) (N := some 85) (v := ?_) (a' := ?_) #[false, true, true, true, false, false, false, false, false, false] rfl rfl (by kernel_rfl) (fun _ _ _ h => h) (Or.inl ⟨by rfl, ?_⟩) ?_ ?_
  rotate_left
  · intro w'
    go_simp
    with_reducible rfl
  rotate_left
  · simp only [Act.put, List.setIfInBounds_toArray, List.set_cons_zero, List.set_cons_succ, i64_w, i32_w]
    rfl
  refine take_ (i := 4) (N := some 86) (v := ?_) (a' := ?_) #[false, true, true, true, true, false, false, false, false, false] rfl rfl (by kernel_rfl) (fun _ _ _ h => h) (Or.inl ⟨by rfl, ?_⟩) hHeld ?_ ?_
  rotate_left
  · rintro w' ⟨s0, s1, s2, s3, s4, s5, s6⟩
    go_simp
    with_reducible rfl
  rotate_left
  · simp only [Act.put, List.setIfInBounds_toArray, List.set_cons_zero, List.set_cons_succ, i64_w, i32_w]
    rfl
  refine join_ (σ := ByteArray × Option Addr × Nat × Nat × Nat × Nat) 1 #[true, true, true, true, true, true, true, true, true, false] (fun s_ => [(82, .agg #[.string ⟨#[99, 97, 115, 101]⟩, .slice none 0 0, .int .i64 0]), (87, .agg #[.string s_.1, .slice s_.2.1 s_.2.2.1 s_.2.2.2.1, .int .i64 0]), (88, .slice (some ⟨s_.2.2.2.2.1, 0, none⟩) 2 2), (89, .agg #[.string ⟨#[]⟩, .slice (some ⟨s_.2.2.2.2.1, 0, none⟩) 2 2, .int .i64 0]), (5, .pointer (some ⟨s_.2.2.2.2.2, 0, none⟩))]) (fun s_ w' => (Below W0.heap.size W0 w') ∧ (NR w' W0.heap.size (some s_.2.2.2.2.2) (some ⟨s_.2.2.2.2.1, 0, Option.none⟩) 2 2) ∧ (w'.heap[s_.2.2.2.2.2]? = some (.cells #[.string ⟨#[]⟩, .slice none 0 0, .int .i64 0] 56 (0, 0)) ∧ W0.heap.size ≤ s_.2.2.2.2.2)) ?_ ?_
  rotate_left
  · intro hJ0_5_6_7_8
    refine join_ (σ := ByteArray × Option Addr × Nat × Nat × Nat × Nat) 2 #[true, true, true, true, true, true, true, true, false, false] (fun s_ => [(82, .agg #[.string ⟨#[99, 97, 115, 101]⟩, .slice none 0 0, .int .i64 0]), (87, .agg #[.string s_.1, .slice s_.2.1 s_.2.2.1 s_.2.2.2.1, .int .i64 0]), (88, .slice (some ⟨s_.2.2.2.2.1, 0, none⟩) 2 2), (89, .agg #[.string ⟨#[]⟩, .slice (some ⟨s_.2.2.2.2.1, 0, none⟩) 2 2, .int .i64 0])]) (fun s_ w' => (Below W0.heap.size W0 w') ∧ (NR w' W0.heap.size Option.none (some ⟨s_.2.2.2.2.1, 0, Option.none⟩) 2 2)) ?_ ?_
    rotate_left
    · intro hJ0_5_6_7
      refine join_ (σ := ByteArray × Option Addr × Nat × Nat × Nat × Nat) 2 #[true, true, true, true, true, true, true, false, true, false] (fun s_ => [(82, .agg #[.string ⟨#[99, 97, 115, 101]⟩, .slice none 0 0, .int .i64 0]), (87, .agg #[.string s_.1, .slice s_.2.1 s_.2.2.1 s_.2.2.2.1, .int .i64 0]), (88, .slice (some ⟨s_.2.2.2.2.1, 0, none⟩) 2 2), (5, .pointer (some ⟨s_.2.2.2.2.2, 0, none⟩))]) (fun s_ w' => (Below W0.heap.size W0 w') ∧ (NR w' W0.heap.size (some s_.2.2.2.2.2) (some ⟨s_.2.2.2.2.1, 0, Option.none⟩) 2 2) ∧ (w'.heap[s_.2.2.2.2.2]? = some (.cells #[.string ⟨#[]⟩, .slice none 0 0, .int .i64 0] 56 (0, 0)) ∧ W0.heap.size ≤ s_.2.2.2.2.2)) ?_ ?_
      rotate_left
      · intro hJ0_5_6_8
        refine join_ (σ := ByteArray × Option Addr × Nat × Nat × Nat × Nat) 3 #[true, true, true, true, true, true, true, false, false, false] (fun s_ => [(82, .agg #[.string ⟨#[99, 97, 115, 101]⟩, .slice none 0 0, .int .i64 0]), (87, .agg #[.string s_.1, .slice s_.2.1 s_.2.2.1 s_.2.2.2.1, .int .i64 0]), (88, .slice (some ⟨s_.2.2.2.2.1, 0, none⟩) 2 2)]) (fun s_ w' => (Below W0.heap.size W0 w') ∧ (NR w' W0.heap.size Option.none (some ⟨s_.2.2.2.2.1, 0, Option.none⟩) 2 2)) ?_ ?_
        rotate_left
        · intro hJ0_5_6
          refine join_ (σ := ByteArray × Option Addr × Nat × Nat × Nat × Nat) 3 #[true, true, true, true, true, true, false, false, true, false] (fun s_ => [(82, .agg #[.string ⟨#[99, 97, 115, 101]⟩, .slice none 0 0, .int .i64 0]), (87, .agg #[.string s_.1, .slice s_.2.1 s_.2.2.1 s_.2.2.2.1, .int .i64 0]), (5, .pointer (some ⟨s_.2.2.2.2.2, 0, none⟩))]) (fun s_ w' => (Below W0.heap.size W0 w') ∧ (NX w' W0.heap.size (some s_.2.2.2.2.2) s_.2.1 s_.2.2.1 ∧ s_.2.2.1 ≤ s_.2.2.2.1) ∧ (w'.heap[s_.2.2.2.2.2]? = some (.cells #[.string ⟨#[]⟩, .slice none 0 0, .int .i64 0] 56 (0, 0)) ∧ W0.heap.size ≤ s_.2.2.2.2.2)) ?_ ?_
          rotate_left
          · intro hJ0_5_8
            refine join_ (σ := ByteArray × Option Addr × Nat × Nat × Nat × Nat) 4 #[true, true, true, true, true, true, false, false, false, false] (fun s_ => [(82, .agg #[.string ⟨#[99, 97, 115, 101]⟩, .slice none 0 0, .int .i64 0]), (87, .agg #[.string s_.1, .slice s_.2.1 s_.2.2.1 s_.2.2.2.1, .int .i64 0])]) (fun s_ w' => (Below W0.heap.size W0 w') ∧ (NX w' W0.heap.size Option.none s_.2.1 s_.2.2.1 ∧ s_.2.2.1 ≤ s_.2.2.2.1)) ?_ ?_
            rotate_left
            · intro hJ0_5
              refine join_ (σ := ByteArray × Option Addr × Nat × Nat × Nat × Nat) 4 #[true, true, true, true, true, false, false, false, true, false] (fun s_ => [(82, .agg #[.string ⟨#[99, 97, 115, 101]⟩, .slice none 0 0, .int .i64 0]), (5, .pointer (some ⟨s_.2.2.2.2.2, 0, none⟩))]) (fun s_ w' => (Below W0.heap.size W0 w') ∧ (w'.heap[s_.2.2.2.2.2]? = some (.cells #[.string ⟨#[]⟩, .slice none 0 0, .int .i64 0] 56 (0, 0)) ∧ W0.heap.size ≤ s_.2.2.2.2.2)) ?_ ?_
              rotate_left
              · intro hJ0_8
                refine join_ (σ := ByteArray × Option Addr × Nat × Nat × Nat × Nat) 5 #[true, true, true, true, true, false, false, false, false, false] (fun s_ => [(82, .agg #[.string ⟨#[99, 97, 115, 101]⟩, .slice none 0 0, .int .i64 0])]) (fun s_ w' => (Below W0.heap.size W0 w')) ?_ ?_
                rotate_left
                · intro hJ0
                  refine join_ (σ := ByteArray × Option Addr × Nat × Nat × Nat × Nat) 5 #[false, true, true, true, true, false, false, false, true, false] (fun s_ => [(5, .pointer (some ⟨s_.2.2.2.2.2, 0, none⟩))]) (fun s_ w' => (Below W0.heap.size W0 w') ∧ (w'.heap[s_.2.2.2.2.2]? = some (.cells #[.string ⟨#[]⟩, .slice none 0 0, .int .i64 0] 56 (0, 0)) ∧ W0.heap.size ≤ s_.2.2.2.2.2)) ?_ ?_
                  rotate_left
                  · intro hJ8
                    refine two_ (i := 0) (j := 8) (Ni := some 82) (Nj := some 5) #[true, true, true, true, true, false, false, false, false, false] #[false, true, true, true, true, false, false, false, true, false] rfl rfl rfl rfl (by kernel_rfl) (by decide) (by decide) (fun K hK => ?_) (fun K hK => ?_)
                    · skip
                      refine goes_ Tryd.func49 (by kernel_rfl) rfl #[.string ⟨#[99, 97, 115, 101]⟩] (by rfl) rfl rfl (by simp only [List.map_toArray, List.map_cons, List.map_nil]; rfl) ?_
                      (with_reducible refine (w_calls _ W9).mono ?_)
                      rintro e w3 ⟨rfl, hbq⟩
                      refine ⟨_, rfl, ?_⟩
                      have HBn := below_step HB_ hbq
                      refine hK.out _ _ ⟨(blk_cell (blk_below hbx.out HBn) 4).trans rfl, (he.out.below HBn).1, (he.out.below HBn).2.1, (he.out.below HBn).2.2.1, (he.out.below HBn).2.2.2.1, (he.out.below HBn).2.2.2.2.1, (he.out.below HBn).2.2.2.2.2⟩ (fun hHeld => ?_)
                      clear hK K
                      refine norm_ (a' := ?_) ?_ ?_
                      rotate_left
                      · show Act.put _ (some 82) _ = _
                        simp only [Act.put, List.setIfInBounds_toArray, List.set_cons_zero, List.set_cons_succ, i64_w, i32_w]
                        rfl
                      exact norm_ (by first | (simp only [putAll, Act.put, List.setIfInBounds_toArray, List.set_cons_zero, List.set_cons_succ]; done) | (simp only [putAll, Act.put, List.setIfInBounds_toArray, List.set_cons_zero, List.set_cons_succ]; rfl)) (hJ0 (⟨#[]⟩, none, 0, 0, 0, 0) _ HBn)
                    · skip
                      refine value_ (w1 := ?_) (v := ?_) (by rfl) rfl ?_ ?_
                      rotate_left 2
                      · go_simp
                        constructor
                        · rfl
                        · rfl
                      have hbq := below_alloc (Below.refl W9.heap.size W9) (.cells #[.string ⟨#[]⟩, .slice none 0 0, .int .i64 0] 56)
                      have HBn := below_step HB_ hbq
                      refine hK.out _ _ ⟨(blk_cell (blk_below hbx.out HBn) 4).trans rfl, (he.out.below HBn).1, (he.out.below HBn).2.1, (he.out.below HBn).2.2.1, (he.out.below HBn).2.2.2.1, (he.out.below HBn).2.2.2.2.1, (he.out.below HBn).2.2.2.2.2⟩ (fun hHeld => ?_)
                      clear hK K
                      refine norm_ (a' := ?_) ?_ ?_
                      rotate_left
                      · show Act.put _ (some 5) _ = _
                        simp only [Act.put, List.setIfInBounds_toArray, List.set_cons_zero, List.set_cons_succ, i64_w, i32_w]
                        rfl
                      exact norm_ (by first | (simp only [putAll, Act.put, List.setIfInBounds_toArray, List.set_cons_zero, List.set_cons_succ]; done) | (simp only [putAll, Act.put, List.setIfInBounds_toArray, List.set_cons_zero, List.set_cons_succ]; rfl)) (hJ8 (⟨#[]⟩, none, 0, 0, 0, W9.heap.size) _ ⟨HBn, ⟨blk_new W9 _, HB_.size⟩⟩)
                  · skip
                    rintro ⟨s5, A5', n5', c5', b6, xb⟩ W9 ⟨HB_, hx8⟩
                    skip
                    have hHeld : W9.cell? ⟨w.heap.size, 4, none⟩ = some (.slice (some ad) n4 c4) ∧ W9.cell? ad = some (.int .i64 x.f0) ∧ W9.cell? ⟨(ad).block, (ad).off + 1, none⟩ = some (.string x.f1) ∧ W9.cell? ⟨(ad).block, (ad).off + 2, none⟩ = some (.int .i64 x.f2) ∧ W9.cell? ⟨(ad).block, (ad).off + 3, none⟩ = some (.slice B3 x.f3.length d3) ∧ W9.cell? ⟨(ad).block, (ad).off + 4, none⟩ = some (.slice B4 x.f4.length d4) ∧ W9.cell? ⟨(ad).block, (ad).off + 5, none⟩ = some (.slice B5 x.f5.length d5) := ⟨(blk_cell (blk_below hbx.out HB_) 4).trans rfl, (he.out.below HB_).1, (he.out.below HB_).2.1, (he.out.below HB_).2.2.1, (he.out.below HB_).2.2.2.1, (he.out.below HB_).2.2.2.2.1, (he.out.below HB_).2.2.2.2.2⟩
                    refine norm_ (a' := ?_) ?_ ?_
                    rotate_left
                    · simp only [putAll, Act.put, List.setIfInBounds_toArray, List.set_cons_zero, List.set_cons_succ]
                      rfl
                    refine one_ (i := 0) (N := some 82) #[true, true, true, true, true, false, false, false, true, false] rfl rfl (by kernel_rfl) (by decide) (fun K hK => ?_)
                    refine goes_ Tryd.func49 (by kernel_rfl) rfl #[.string ⟨#[99, 97, 115, 101]⟩] (by rfl) rfl rfl (by simp only [List.map_toArray, List.map_cons, List.map_nil]; rfl) ?_
                    (with_reducible refine (w_calls _ W9).mono ?_)
                    rintro e w3 ⟨rfl, hbq⟩
                    refine ⟨_, rfl, ?_⟩
                    have HBn := below_step HB_ hbq
                    refine hK.out _ _ ⟨(blk_cell (blk_below hbx.out HBn) 4).trans rfl, (he.out.below HBn).1, (he.out.below HBn).2.1, (he.out.below HBn).2.2.1, (he.out.below HBn).2.2.2.1, (he.out.below HBn).2.2.2.2.1, (he.out.below HBn).2.2.2.2.2⟩ (fun hHeld => ?_)
                    clear hK K
                    refine norm_ (a' := ?_) ?_ ?_
                    rotate_left
                    · show Act.put _ (some 82) _ = _
                      simp only [Act.put, List.setIfInBounds_toArray, List.set_cons_zero, List.set_cons_succ, i64_w, i32_w]
                      rfl
                    exact norm_ (by first | (simp only [putAll, Act.put, List.setIfInBounds_toArray, List.set_cons_zero, List.set_cons_succ]; done) | (simp only [putAll, Act.put, List.setIfInBounds_toArray, List.set_cons_zero, List.set_cons_succ]; rfl)) (hJ0_8 (s5, A5', n5', c5', b6, xb) _ ⟨HBn, ⟨blk_below hx8.1 hbq, hx8.2⟩⟩)
                · skip
                  rintro ⟨s5, A5', n5', c5', b6, xb⟩ W9 HB_
                  skip
                  have hHeld : W9.cell? ⟨w.heap.size, 4, none⟩ = some (.slice (some ad) n4 c4) ∧ W9.cell? ad = some (.int .i64 x.f0) ∧ W9.cell? ⟨(ad).block, (ad).off + 1, none⟩ = some (.string x.f1) ∧ W9.cell? ⟨(ad).block, (ad).off + 2, none⟩ = some (.int .i64 x.f2) ∧ W9.cell? ⟨(ad).block, (ad).off + 3, none⟩ = some (.slice B3 x.f3.length d3) ∧ W9.cell? ⟨(ad).block, (ad).off + 4, none⟩ = some (.slice B4 x.f4.length d4) ∧ W9.cell? ⟨(ad).block, (ad).off + 5, none⟩ = some (.slice B5 x.f5.length d5) := ⟨(blk_cell (blk_below hbx.out HB_) 4).trans rfl, (he.out.below HB_).1, (he.out.below HB_).2.1, (he.out.below HB_).2.2.1, (he.out.below HB_).2.2.2.1, (he.out.below HB_).2.2.2.2.1, (he.out.below HB_).2.2.2.2.2⟩
                  refine norm_ (a' := ?_) ?_ ?_
                  rotate_left
                  · simp only [putAll, Act.put, List.setIfInBounds_toArray, List.set_cons_zero, List.set_cons_succ]
                    rfl
                  refine two_ (i := 5) (j := 8) (Ni := some 87) (Nj := some 5) #[true, true, true, true, true, true, false, false, false, false] #[true, true, true, true, true, false, false, false, true, false] rfl rfl rfl rfl (by kernel_rfl) (by decide) (by decide) (fun K hK => ?_) (fun K hK => ?_)
                  · skip
                    refine goes_ Tryd.func37 (by kernel_rfl) rfl #[.agg #[.int .i64 x.f0, .string x.f1, .int .i64 x.f2, .slice B3 x.f3.length d3, .slice B4 x.f4.length d4, .slice B5 x.f5.length d5]] (by rfl) rfl rfl (by simp only [List.map_toArray, List.map_cons, List.map_nil]; rfl) ?_
                    (with_reducible refine (hx.at W9 (GG.below hg0.out HB_) (Kd.C_below h3.out HB_) (Kd.C_below h4.out HB_) (Kd.C_below h5.out HB_)).mono ?_)
                    rintro e w3 ⟨s5, A5', n5', c5', rfl, hc5, hn5, hbq⟩
                    refine ⟨_, rfl, ?_⟩
                    have HBn := below_step HB_ hbq
                    refine hK.out _ _ ⟨(blk_cell (blk_below hbx.out HBn) 4).trans rfl, (he.out.below HBn).1, (he.out.below HBn).2.1, (he.out.below HBn).2.2.1, (he.out.below HBn).2.2.2.1, (he.out.below HBn).2.2.2.2.1, (he.out.below HBn).2.2.2.2.2⟩ (fun hHeld => ?_)
                    clear hK K
                    refine norm_ (a' := ?_) ?_ ?_
                    rotate_left
                    · show Act.put _ (some 87) _ = _
                      simp only [Act.put, List.setIfInBounds_toArray, List.set_cons_zero, List.set_cons_succ, i64_w, i32_w]
                      rfl
                    exact norm_ (by first | (simp only [putAll, Act.put, List.setIfInBounds_toArray, List.set_cons_zero, List.set_cons_succ]; done) | (simp only [putAll, Act.put, List.setIfInBounds_toArray, List.set_cons_zero, List.set_cons_succ]; rfl)) (hJ0_5 (s5, A5', n5', c5', b6, xb) _ ⟨HBn, ⟨NL.nx hn5 HB_.size (fun y hy => by cases hy), hc5⟩⟩)
                  · skip
                    refine value_ (w1 := ?_) (v := ?_) (by rfl) rfl ?_ ?_
                    rotate_left 2
                    · go_simp
                      constructor
                      · rfl
                      · rfl
                    have hbq := below_alloc (Below.refl W9.heap.size W9) (.cells #[.string ⟨#[]⟩, .slice none 0 0, .int .i64 0] 56)
                    have HBn := below_step HB_ hbq
                    refine hK.out _ _ ⟨(blk_cell (blk_below hbx.out HBn) 4).trans rfl, (he.out.below HBn).1, (he.out.below HBn).2.1, (he.out.below HBn).2.2.1, (he.out.below HBn).2.2.2.1, (he.out.below HBn).2.2.2.2.1, (he.out.below HBn).2.2.2.2.2⟩ (fun hHeld => ?_)
                    clear hK K
                    refine norm_ (a' := ?_) ?_ ?_
                    rotate_left
                    · show Act.put _ (some 5) _ = _
                      simp only [Act.put, List.setIfInBounds_toArray, List.set_cons_zero, List.set_cons_succ, i64_w, i32_w]
                      rfl
                    exact norm_ (by first | (simp only [putAll, Act.put, List.setIfInBounds_toArray, List.set_cons_zero, List.set_cons_succ]; done) | (simp only [putAll, Act.put, List.setIfInBounds_toArray, List.set_cons_zero, List.set_cons_succ]; rfl)) (hJ0_8 (s5, A5', n5', c5', b6, W9.heap.size) _ ⟨HBn, ⟨blk_new W9 _, HB_.size⟩⟩)
              · skip
                rintro ⟨s5, A5', n5', c5', b6, xb⟩ W9 ⟨HB_, hx8⟩
                skip
                have hHeld : W9.cell? ⟨w.heap.size, 4, none⟩ = some (.slice (some ad) n4 c4) ∧ W9.cell? ad = some (.int .i64 x.f0) ∧ W9.cell? ⟨(ad).block, (ad).off + 1, none⟩ = some (.string x.f1) ∧ W9.cell? ⟨(ad).block, (ad).off + 2, none⟩ = some (.int .i64 x.f2) ∧ W9.cell? ⟨(ad).block, (ad).off + 3, none⟩ = some (.slice B3 x.f3.length d3) ∧ W9.cell? ⟨(ad).block, (ad).off + 4, none⟩ = some (.slice B4 x.f4.length d4) ∧ W9.cell? ⟨(ad).block, (ad).off + 5, none⟩ = some (.slice B5 x.f5.length d5) := ⟨(blk_cell (blk_below hbx.out HB_) 4).trans rfl, (he.out.below HB_).1, (he.out.below HB_).2.1, (he.out.below HB_).2.2.1, (he.out.below HB_).2.2.2.1, (he.out.below HB_).2.2.2.2.1, (he.out.below HB_).2.2.2.2.2⟩
                refine norm_ (a' := ?_) ?_ ?_
                rotate_left
                · simp only [putAll, Act.put, List.setIfInBounds_toArray, List.set_cons_zero, List.set_cons_succ]
                  rfl
                refine one_ (i := 5) (N := some 87) #[true, true, true, true, true, true, false, false, true, false] rfl rfl (by kernel_rfl) (by decide) (fun K hK => ?_)
                refine goes_ Tryd.func37 (by kernel_rfl) rfl #[.agg #[.int .i64 x.f0, .string x.f1, .int .i64 x.f2, .slice B3 x.f3.length d3, .slice B4 x.f4.length d4, .slice B5 x.f5.length d5]] (by rfl) rfl rfl (by simp only [List.map_toArray, List.map_cons, List.map_nil]; rfl) ?_
                (with_reducible refine (hx.at W9 (GG.below hg0.out HB_) (Kd.C_below h3.out HB_) (Kd.C_below h4.out HB_) (Kd.C_below h5.out HB_)).mono ?_)
                rintro e w3 ⟨s5, A5', n5', c5', rfl, hc5, hn5, hbq⟩
                refine ⟨_, rfl, ?_⟩
                have HBn := below_step HB_ hbq
                refine hK.out _ _ ⟨(blk_cell (blk_below hbx.out HBn) 4).trans rfl, (he.out.below HBn).1, (he.out.below HBn).2.1, (he.out.below HBn).2.2.1, (he.out.below HBn).2.2.2.1, (he.out.below HBn).2.2.2.2.1, (he.out.below HBn).2.2.2.2.2⟩ (fun hHeld => ?_)
                clear hK K
                refine norm_ (a' := ?_) ?_ ?_
                rotate_left
                · show Act.put _ (some 87) _ = _
                  simp only [Act.put, List.setIfInBounds_toArray, List.set_cons_zero, List.set_cons_succ, i64_w, i32_w]
                  rfl
                exact norm_ (by first | (simp only [putAll, Act.put, List.setIfInBounds_toArray, List.set_cons_zero, List.set_cons_succ]; done) | (simp only [putAll, Act.put, List.setIfInBounds_toArray, List.set_cons_zero, List.set_cons_succ]; rfl)) (hJ0_5_8 (s5, A5', n5', c5', b6, xb) _ ⟨HBn, ⟨NL.nx hn5 HB_.size (fun y hy => by obtain rfl := Option.some.inj hy; exact (Array.getElem?_eq_some_iff.1 hx8.1).1), hc5⟩, ⟨blk_below hx8.1 hbq, hx8.2⟩⟩)
            · skip
              rintro ⟨s5, A5', n5', c5', b6, xb⟩ W9 ⟨HB_, hn5'⟩
              skip
              have hHeld : W9.cell? ⟨w.heap.size, 4, none⟩ = some (.slice (some ad) n4 c4) ∧ W9.cell? ad = some (.int .i64 x.f0) ∧ W9.cell? ⟨(ad).block, (ad).off + 1, none⟩ = some (.string x.f1) ∧ W9.cell? ⟨(ad).block, (ad).off + 2, none⟩ = some (.int .i64 x.f2) ∧ W9.cell? ⟨(ad).block, (ad).off + 3, none⟩ = some (.slice B3 x.f3.length d3) ∧ W9.cell? ⟨(ad).block, (ad).off + 4, none⟩ = some (.slice B4 x.f4.length d4) ∧ W9.cell? ⟨(ad).block, (ad).off + 5, none⟩ = some (.slice B5 x.f5.length d5) := ⟨(blk_cell (blk_below hbx.out HB_) 4).trans rfl, (he.out.below HB_).1, (he.out.below HB_).2.1, (he.out.below HB_).2.2.1, (he.out.below HB_).2.2.2.1, (he.out.below HB_).2.2.2.2.1, (he.out.below HB_).2.2.2.2.2⟩
              refine norm_ (a' := ?_) ?_ ?_
              rotate_left
              · simp only [putAll, Act.put, List.setIfInBounds_toArray, List.set_cons_zero, List.set_cons_succ]
                rfl
              refine two_ (i := 6) (j := 8) (Ni := some 88) (Nj := some 5) #[true, true, true, true, true, true, true, false, false, false] #[true, true, true, true, true, true, false, false, true, false] rfl rfl rfl rfl (by kernel_rfl) (by decide) (by decide) (fun K hK => ?_) (fun K hK => ?_)
              · skip
                refine value_ (w1 := ?_) (v := ?_) (by rfl) rfl ?_ ?_
                rotate_left 2
                · go_simp
                  constructor
                  · rfl
                  · rfl
                have hbq := below_alloc (Below.refl W9.heap.size W9) (.cells #[.string ⟨#[99, 97, 115, 101]⟩, .slice none 0 0, .int .i64 0, .string s5, .slice A5' n5' c5', .int .i64 0] 56)
                have HBn := below_step HB_ hbq
                refine hK.out _ _ ⟨(blk_cell (blk_below hbx.out HBn) 4).trans rfl, (he.out.below HBn).1, (he.out.below HBn).2.1, (he.out.below HBn).2.2.1, (he.out.below HBn).2.2.2.1, (he.out.below HBn).2.2.2.2.1, (he.out.below HBn).2.2.2.2.2⟩ (fun hHeld => ?_)
                clear hK K
                refine norm_ (a' := ?_) ?_ ?_
                rotate_left
                · show Act.put _ (some 88) _ = _
                  simp only [Act.put, List.setIfInBounds_toArray, List.set_cons_zero, List.set_cons_succ, i64_w, i32_w]
                  rfl
                exact norm_ (by first | (simp only [putAll, Act.put, List.setIfInBounds_toArray, List.set_cons_zero, List.set_cons_succ]; done) | (simp only [putAll, Act.put, List.setIfInBounds_toArray, List.set_cons_zero, List.set_cons_succ]; rfl)) (hJ0_5_6 (s5, A5', n5', c5', W9.heap.size, xb) _ ⟨HBn, NR.litX hn5'.1 hn5'.2 HB_.size (fun e => by cases e)⟩)
              · skip
                refine value_ (w1 := ?_) (v := ?_) (by rfl) rfl ?_ ?_
                rotate_left 2
                · go_simp
                  constructor
                  · rfl
                  · rfl
                have hbq := below_alloc (Below.refl W9.heap.size W9) (.cells #[.string ⟨#[]⟩, .slice none 0 0, .int .i64 0] 56)
                have HBn := below_step HB_ hbq
                refine hK.out _ _ ⟨(blk_cell (blk_below hbx.out HBn) 4).trans rfl, (he.out.below HBn).1, (he.out.below HBn).2.1, (he.out.below HBn).2.2.1, (he.out.below HBn).2.2.2.1, (he.out.below HBn).2.2.2.2.1, (he.out.below HBn).2.2.2.2.2⟩ (fun hHeld => ?_)
                clear hK K
                refine norm_ (a' := ?_) ?_ ?_
                rotate_left
                · show Act.put _ (some 5) _ = _
                  simp only [Act.put, List.setIfInBounds_toArray, List.set_cons_zero, List.set_cons_succ, i64_w, i32_w]
                  rfl
                exact norm_ (by first | (simp only [putAll, Act.put, List.setIfInBounds_toArray, List.set_cons_zero, List.set_cons_succ]; done) | (simp only [putAll, Act.put, List.setIfInBounds_toArray, List.set_cons_zero, List.set_cons_succ]; rfl)) (hJ0_5_8 (s5, A5', n5', c5', b6, W9.heap.size) _ ⟨HBn, ⟨NX.newx hn5'.1 _, hn5'.2⟩, ⟨blk_new W9 _, HB_.size⟩⟩)
          · skip
            rintro ⟨s5, A5', n5', c5', b6, xb⟩ W9 ⟨HB_, hn5', hx8⟩
            skip
            have hHeld : W9.cell? ⟨w.heap.size, 4, none⟩ = some (.slice (some ad) n4 c4) ∧ W9.cell? ad = some (.int .i64 x.f0) ∧ W9.cell? ⟨(ad).block, (ad).off + 1, none⟩ = some (.string x.f1) ∧ W9.cell? ⟨(ad).block, (ad).off + 2, none⟩ = some (.int .i64 x.f2) ∧ W9.cell? ⟨(ad).block, (ad).off + 3, none⟩ = some (.slice B3 x.f3.length d3) ∧ W9.cell? ⟨(ad).block, (ad).off + 4, none⟩ = some (.slice B4 x.f4.length d4) ∧ W9.cell? ⟨(ad).block, (ad).off + 5, none⟩ = some (.slice B5 x.f5.length d5) := ⟨(blk_cell (blk_below hbx.out HB_) 4).trans rfl, (he.out.below HB_).1, (he.out.below HB_).2.1, (he.out.below HB_).2.2.1, (he.out.below HB_).2.2.2.1, (he.out.below HB_).2.2.2.2.1, (he.out.below HB_).2.2.2.2.2⟩
            refine norm_ (a' := ?_) ?_ ?_
            rotate_left
            · simp only [putAll, Act.put, List.setIfInBounds_toArray, List.set_cons_zero, List.set_cons_succ]
              rfl
            refine one_ (i := 6) (N := some 88) #[true, true, true, true, true, true, true, false, true, false] rfl rfl (by kernel_rfl) (by decide) (fun K hK => ?_)
            refine value_ (w1 := ?_) (v := ?_) (by rfl) rfl ?_ ?_
            rotate_left 2
            · go_simp
              constructor
              · rfl
              · rfl
            have hbq := below_alloc (Below.refl W9.heap.size W9) (.cells #[.string ⟨#[99, 97, 115, 101]⟩, .slice none 0 0, .int .i64 0, .string s5, .slice A5' n5' c5', .int .i64 0] 56)
            have HBn := below_step HB_ hbq
            refine hK.out _ _ ⟨(blk_cell (blk_below hbx.out HBn) 4).trans rfl, (he.out.below HBn).1, (he.out.below HBn).2.1, (he.out.below HBn).2.2.1, (he.out.below HBn).2.2.2.1, (he.out.below HBn).2.2.2.2.1, (he.out.below HBn).2.2.2.2.2⟩ (fun hHeld => ?_)
            clear hK K
            refine norm_ (a' := ?_) ?_ ?_
            rotate_left
            · show Act.put _ (some 88) _ = _
              simp only [Act.put, List.setIfInBounds_toArray, List.set_cons_zero, List.set_cons_succ, i64_w, i32_w]
              rfl
            exact norm_ (by first | (simp only [putAll, Act.put, List.setIfInBounds_toArray, List.set_cons_zero, List.set_cons_succ]; done) | (simp only [putAll, Act.put, List.setIfInBounds_toArray, List.set_cons_zero, List.set_cons_succ]; rfl)) (hJ0_5_6_8 (s5, A5', n5', c5', W9.heap.size, xb) _ ⟨HBn, NR.litX hn5'.1 hn5'.2 HB_.size (fun e => by have h1 := Option.some.inj e; have h2 := (Array.getElem?_eq_some_iff.1 hx8.1).1; dsimp only at h1 h2; omega), ⟨blk_below hx8.1 hbq, hx8.2⟩⟩)
        · skip
          rintro ⟨s5, A5', n5', c5', b6, xb⟩ W9 ⟨HB_, hr6⟩
          skip
          have hHeld : W9.cell? ⟨w.heap.size, 4, none⟩ = some (.slice (some ad) n4 c4) ∧ W9.cell? ad = some (.int .i64 x.f0) ∧ W9.cell? ⟨(ad).block, (ad).off + 1, none⟩ = some (.string x.f1) ∧ W9.cell? ⟨(ad).block, (ad).off + 2, none⟩ = some (.int .i64 x.f2) ∧ W9.cell? ⟨(ad).block, (ad).off + 3, none⟩ = some (.slice B3 x.f3.length d3) ∧ W9.cell? ⟨(ad).block, (ad).off + 4, none⟩ = some (.slice B4 x.f4.length d4) ∧ W9.cell? ⟨(ad).block, (ad).off + 5, none⟩ = some (.slice B5 x.f5.length d5) := ⟨(blk_cell (blk_below hbx.out HB_) 4).trans rfl, (he.out.below HB_).1, (he.out.below HB_).2.1, (he.out.below HB_).2.2.1, (he.out.below HB_).2.2.2.1, (he.out.below HB_).2.2.2.2.1, (he.out.below HB_).2.2.2.2.2⟩
          refine norm_ (a' := ?_) ?_ ?_
          rotate_left
          · simp only [putAll, Act.put, List.setIfInBounds_toArray, List.set_cons_zero, List.set_cons_succ]
            rfl
          refine two_ (i := 7) (j := 8) (Ni := some 89) (Nj := some 5) #[true, true, true, true, true, true, true, true, false, false] #[true, true, true, true, true, true, true, false, true, false] rfl rfl rfl rfl (by kernel_rfl) (by decide) (by decide) (fun K hK => ?_) (fun K hK => ?_)
          · skip
            refine goes_ Tryd.func52 (by kernel_rfl) rfl #[.slice (some ⟨b6, 0, none⟩) 2 2] (by rfl) rfl rfl (by simp only [List.map_toArray, List.map_cons, List.map_nil]; rfl) ?_
            (with_reducible refine (l_calls _ _ _ _).mono ?_)
            rintro e w3 ⟨rfl, hbq⟩
            refine ⟨_, rfl, ?_⟩
            have HBn := below_step HB_ hbq
            refine hK.out _ _ ⟨(blk_cell (blk_below hbx.out HBn) 4).trans rfl, (he.out.below HBn).1, (he.out.below HBn).2.1, (he.out.below HBn).2.2.1, (he.out.below HBn).2.2.2.1, (he.out.below HBn).2.2.2.2.1, (he.out.below HBn).2.2.2.2.2⟩ (fun hHeld => ?_)
            clear hK K
            refine norm_ (a' := ?_) ?_ ?_
            rotate_left
            · show Act.put _ (some 89) _ = _
              simp only [Act.put, List.setIfInBounds_toArray, List.set_cons_zero, List.set_cons_succ, i64_w, i32_w]
              rfl
            exact norm_ (by first | (simp only [putAll, Act.put, List.setIfInBounds_toArray, List.set_cons_zero, List.set_cons_succ]; done) | (simp only [putAll, Act.put, List.setIfInBounds_toArray, List.set_cons_zero, List.set_cons_succ]; rfl)) (hJ0_5_6_7 (s5, A5', n5', c5', b6, xb) _ ⟨HBn, NR.below hr6 hbq⟩)
          · skip
            refine value_ (w1 := ?_) (v := ?_) (by rfl) rfl ?_ ?_
            rotate_left 2
            · go_simp
              constructor
              · rfl
              · rfl
            have hbq := below_alloc (Below.refl W9.heap.size W9) (.cells #[.string ⟨#[]⟩, .slice none 0 0, .int .i64 0] 56)
            have HBn := below_step HB_ hbq
            refine hK.out _ _ ⟨(blk_cell (blk_below hbx.out HBn) 4).trans rfl, (he.out.below HBn).1, (he.out.below HBn).2.1, (he.out.below HBn).2.2.1, (he.out.below HBn).2.2.2.1, (he.out.below HBn).2.2.2.2.1, (he.out.below HBn).2.2.2.2.2⟩ (fun hHeld => ?_)
            clear hK K
            refine norm_ (a' := ?_) ?_ ?_
            rotate_left
            · show Act.put _ (some 5) _ = _
              simp only [Act.put, List.setIfInBounds_toArray, List.set_cons_zero, List.set_cons_succ, i64_w, i32_w]
              rfl
            exact norm_ (by first | (simp only [putAll, Act.put, List.setIfInBounds_toArray, List.set_cons_zero, List.set_cons_succ]; done) | (simp only [putAll, Act.put, List.setIfInBounds_toArray, List.set_cons_zero, List.set_cons_succ]; rfl)) (hJ0_5_6_8 (s5, A5', n5', c5', b6, W9.heap.size) _ ⟨HBn, NR.newx hr6 _, ⟨blk_new W9 _, HB_.size⟩⟩)
      · skip
        rintro ⟨s5, A5', n5', c5', b6, xb⟩ W9 ⟨HB_, hr6, hx8⟩
        skip
        have hHeld : W9.cell? ⟨w.heap.size, 4, none⟩ = some (.slice (some ad) n4 c4) ∧ W9.cell? ad = some (.int .i64 x.f0) ∧ W9.cell? ⟨(ad).block, (ad).off + 1, none⟩ = some (.string x.f1) ∧ W9.cell? ⟨(ad).block, (ad).off + 2, none⟩ = some (.int .i64 x.f2) ∧ W9.cell? ⟨(ad).block, (ad).off + 3, none⟩ = some (.slice B3 x.f3.length d3) ∧ W9.cell? ⟨(ad).block, (ad).off + 4, none⟩ = some (.slice B4 x.f4.length d4) ∧ W9.cell? ⟨(ad).block, (ad).off + 5, none⟩ = some (.slice B5 x.f5.length d5) := ⟨(blk_cell (blk_below hbx.out HB_) 4).trans rfl, (he.out.below HB_).1, (he.out.below HB_).2.1, (he.out.below HB_).2.2.1, (he.out.below HB_).2.2.2.1, (he.out.below HB_).2.2.2.2.1, (he.out.below HB_).2.2.2.2.2⟩
        refine norm_ (a' := ?_) ?_ ?_
        rotate_left
        · simp only [putAll, Act.put, List.setIfInBounds_toArray, List.set_cons_zero, List.set_cons_succ]
          rfl
        refine one_ (i := 7) (N := some 89) #[true, true, true, true, true, true, true, true, true, false] rfl rfl (by kernel_rfl) (by decide) (fun K hK => ?_)
        refine goes_ Tryd.func52 (by kernel_rfl) rfl #[.slice (some ⟨b6, 0, none⟩) 2 2] (by rfl) rfl rfl (by simp only [List.map_toArray, List.map_cons, List.map_nil]; rfl) ?_
        (with_reducible refine (l_calls _ _ _ _).mono ?_)
        rintro e w3 ⟨rfl, hbq⟩
        refine ⟨_, rfl, ?_⟩
        have HBn := below_step HB_ hbq
        refine hK.out _ _ ⟨(blk_cell (blk_below hbx.out HBn) 4).trans rfl, (he.out.below HBn).1, (he.out.below HBn).2.1, (he.out.below HBn).2.2.1, (he.out.below HBn).2.2.2.1, (he.out.below HBn).2.2.2.2.1, (he.out.below HBn).2.2.2.2.2⟩ (fun hHeld => ?_)
        clear hK K
        refine norm_ (a' := ?_) ?_ ?_
        rotate_left
        · show Act.put _ (some 89) _ = _
          simp only [Act.put, List.setIfInBounds_toArray, List.set_cons_zero, List.set_cons_succ, i64_w, i32_w]
          rfl
        exact norm_ (by first | (simp only [putAll, Act.put, List.setIfInBounds_toArray, List.set_cons_zero, List.set_cons_succ]; done) | (simp only [putAll, Act.put, List.setIfInBounds_toArray, List.set_cons_zero, List.set_cons_succ]; rfl)) (hJ0_5_6_7_8 (s5, A5', n5', c5', b6, xb) _ ⟨HBn, NR.below hr6 hbq, ⟨blk_below hx8.1 hbq, hx8.2⟩⟩)
    · skip
      rintro ⟨s5, A5', n5', c5', b6, xb⟩ W9 ⟨HB_, hr6⟩
      skip
      have hHeld : W9.cell? ⟨w.heap.size, 4, none⟩ = some (.slice (some ad) n4 c4) ∧ W9.cell? ad = some (.int .i64 x.f0) ∧ W9.cell? ⟨(ad).block, (ad).off + 1, none⟩ = some (.string x.f1) ∧ W9.cell? ⟨(ad).block, (ad).off + 2, none⟩ = some (.int .i64 x.f2) ∧ W9.cell? ⟨(ad).block, (ad).off + 3, none⟩ = some (.slice B3 x.f3.length d3) ∧ W9.cell? ⟨(ad).block, (ad).off + 4, none⟩ = some (.slice B4 x.f4.length d4) ∧ W9.cell? ⟨(ad).block, (ad).off + 5, none⟩ = some (.slice B5 x.f5.length d5) := ⟨(blk_cell (blk_below hbx.out HB_) 4).trans rfl, (he.out.below HB_).1, (he.out.below HB_).2.1, (he.out.below HB_).2.2.1, (he.out.below HB_).2.2.2.1, (he.out.below HB_).2.2.2.2.1, (he.out.below HB_).2.2.2.2.2⟩
      refine norm_ (a' := ?_) ?_ ?_
      rotate_left
      · simp only [putAll, Act.put, List.setIfInBounds_toArray, List.set_cons_zero, List.set_cons_succ]
        rfl
      refine one_ (i := 8) (N := some 5) #[true, true, true, true, true, true, true, true, true, false] rfl rfl (by kernel_rfl) (by decide) (fun K hK => ?_)
      refine value_ (w1 := ?_) (v := ?_) (by rfl) rfl ?_ ?_
      rotate_left 2
      · go_simp
        constructor
        · rfl
        · rfl
      have hbq := below_alloc (Below.refl W9.heap.size W9) (.cells #[.string ⟨#[]⟩, .slice none 0 0, .int .i64 0] 56)
      have HBn := below_step HB_ hbq
      refine hK.out _ _ ⟨(blk_cell (blk_below hbx.out HBn) 4).trans rfl, (he.out.below HBn).1, (he.out.below HBn).2.1, (he.out.below HBn).2.2.1, (he.out.below HBn).2.2.2.1, (he.out.below HBn).2.2.2.2.1, (he.out.below HBn).2.2.2.2.2⟩ (fun hHeld => ?_)
      clear hK K
      refine norm_ (a' := ?_) ?_ ?_
      rotate_left
      · show Act.put _ (some 5) _ = _
        simp only [Act.put, List.setIfInBounds_toArray, List.set_cons_zero, List.set_cons_succ, i64_w, i32_w]
        rfl
      exact norm_ (by first | (simp only [putAll, Act.put, List.setIfInBounds_toArray, List.set_cons_zero, List.set_cons_succ]; done) | (simp only [putAll, Act.put, List.setIfInBounds_toArray, List.set_cons_zero, List.set_cons_succ]; rfl)) (hJ0_5_6_7_8 (s5, A5', n5', c5', b6, W9.heap.size) _ ⟨HBn, NR.newx hr6 _, ⟨blk_new W9 _, HB_.size⟩⟩)
  rintro ⟨s5, A5', n5', c5', b6, xb⟩ W9 ⟨HB_, hr6, hx8⟩
  skip
  have hcz0 := (blk_cell hx8.1 0).trans rfl
  have hcz1 := (blk_cell hx8.1 1).trans rfl
  have hcz2 := (blk_cell hx8.1 2).trans rfl
  have hfz0 := blk_frozen hx8.1 0
  have hfz1 := blk_frozen hx8.1 1
  have hfz2 := blk_frozen hx8.1 2
  have hHeld : W9.cell? ⟨w.heap.size, 4, none⟩ = some (.slice (some ad) n4 c4) ∧ W9.cell? ad = some (.int .i64 x.f0) ∧ W9.cell? ⟨(ad).block, (ad).off + 1, none⟩ = some (.string x.f1) ∧ W9.cell? ⟨(ad).block, (ad).off + 2, none⟩ = some (.int .i64 x.f2) ∧ W9.cell? ⟨(ad).block, (ad).off + 3, none⟩ = some (.slice B3 x.f3.length d3) ∧ W9.cell? ⟨(ad).block, (ad).off + 4, none⟩ = some (.slice B4 x.f4.length d4) ∧ W9.cell? ⟨(ad).block, (ad).off + 5, none⟩ = some (.slice B5 x.f5.length d5) := ⟨(blk_cell (blk_below hbx.out HB_) 4).trans rfl, (he.out.below HB_).1, (he.out.below HB_).2.1, (he.out.below HB_).2.2.1, (he.out.below HB_).2.2.2.1, (he.out.below HB_).2.2.2.2.1, (he.out.below HB_).2.2.2.2.2⟩
  refine norm_ (a' := ?_) ?_ ?_
  rotate_left
  · simp only [putAll, Act.put, List.setIfInBounds_toArray, List.set_cons_zero, List.set_cons_succ]
    rfl
  refine last_ (i := 9) (N := none) #[true, true, true, true, true, true, true, true, true, true] rfl rfl (by kernel_rfl) (by decide) (fun K hK => ?_)
  refine skip_ (w1 := ?_) (by rfl) rfl ?_ ?_
  rotate_left
  · go_simp
    rfl
  refine hK.out _ _ ?_
  clear hK K
  refine done_ (by kernel_rfl) ?_
  clear hHeld
  have hx8' := hx8.2
  have hx8 := hx8.1
  obtain ⟨Wx, hWx⟩ : ∃ Wx, ((W9.setCell ⟨xb, 0, none⟩ (.string ⟨#[]⟩)).setCell ⟨xb, 1, none⟩ (.slice (some ⟨b6, 0, none⟩) 2 2)).setCell ⟨xb, 2, none⟩ (.int .i64 0) = Wx := ⟨_, rfl⟩
  have hXx : Aside0 (Wx.heap[xb]? = some (.cells #[.string ⟨#[]⟩, .slice (some ⟨b6, 0, none⟩) 2 2, .int .i64 0] 56 (0, 0))) := ⟨by rw [← hWx]; exact blk_put (blk_put (blk_put hx8 0 _ rfl) 1 _ rfl) 2 _ rfl⟩
  have hrX : Aside0 (NR Wx W0.heap.size (some xb) (some ⟨b6, 0, none⟩) 2 2) := ⟨by rw [← hWx]; exact ((hr6.far (p := ⟨xb, 0, none⟩) (.inr rfl) _).far (p := ⟨xb, 1, none⟩) (.inr rfl) _).far (p := ⟨xb, 2, none⟩) (.inr rfl) _⟩
  have hBx : Aside0 (Below W0.heap.size W0 Wx) := ⟨by rw [← hWx]; exact ((HB_.setCell (p := ⟨xb, 0, none⟩) hx8' _).setCell (p := ⟨xb, 1, none⟩) hx8' _).setCell (p := ⟨xb, 2, none⟩) hx8' _⟩
  have hsx : Aside0 (xb + 1 ≤ Wx.heap.size ∧ W0.heap.size ≤ xb) := ⟨(Array.getElem?_eq_some_iff.1 hXx.out).1, hx8'⟩
  rw [hWx]
  clear hWx hr6 HB_ hx8 hx8'
  have k5 := (blk_cell (blk_below hbx.out hBx.out) 5).trans rfl
  go_wp2
  go_loopg [6] (n5 + 1) (fun kq v6 w' => ∃ (i m c : Nat) (A : Option Addr), v6 = .int .i64 (i : Int) ∧ i + kq = n5 + 1 ∧ 1 ≤ kq ∧ Aside0 (m ≤ i + 2) ∧ Aside0 (w'.heap[xb]? = some (.cells #[.string ⟨#[]⟩, .slice A m c, .int .i64 0] 56 (0, 0))) ∧ Aside0 (NR w' W0.heap.size (some xb) A m c) ∧ Aside0 (Below W0.heap.size W0 w') ∧ Aside0 (xb + 1 ≤ w'.heap.size ∧ W0.heap.size ≤ xb))
  case atStart => exact ⟨0, 2, 2, _, rfl, by omega, by omega, ⟨by omega⟩, hXx, hrX, hBx, hsx⟩
  case round =>
    obtain ⟨i, m, c, A, rfl, hi, hk, hm, hX, hr, hB, hs⟩ := hrel
    have hXb := hX
    have hrow := hr
    have hxs := hs
    have hBr := hB
    have hms : Aside0 (m ≤ 200000000000) := ⟨by have h1 := hm.out; have h2 := hn5.out; omega⟩
    have hgr := Aside0.mk (GG.below hg0.out hBr.out)
    clear hX hr hs hB hXx hrX hBx hsx k5
    have k5 := (blk_cell (blk_below hbx.out hBr.out) 5).trans rfl
    by_cases hlt : i < n5
    · have hli : i < la.length := by have := hn5.out; omega
      have hxi : la[i]? = some la[i] := List.getElem?_eq_getElem hli
      have ha := ha _ (List.getElem_mem hli)
      generalize la[i] = a at hxi ha
      obtain ⟨ada, B3, d3, B7, d7, B8, d8, B9, d9, rfl, he, g3, g7, g8, g9⟩ := elem40 (Kd.C_below hC.out hBr.out) i hxi
      have he := Aside0.mk he
      have h3 := Aside0.mk g3
      have h7 := Aside0.mk g7
      have h8 := Aside0.mk g8
      have h9 := Aside0.mk g9
      clear g3 g7 g8 g9
      have p0 : (0 : Int) ≤ (i : Int) := by omega
      have p1 : (i : Int) < (n5 : Int) := by omega
      have q1 : decide ((i : Int) < (n5 : Int)) = true := decide_eq_true p1
      go_wp2
      have HB_ : Below wr.heap.size wr wr.drew := below_drew1 (Below.refl _ _)
      have hg9 := Aside0.mk (GG.below hgr.out HB_)
      refine start_ (n := 21) (S := fun w' => w'.cell? ⟨xb, 1, none⟩ = some (.slice A m c) ∧ w'.cell? ⟨w.heap.size, 5, none⟩ = some (.slice (some ada) n5 c5) ∧ w'.cell? (ada.add (i * 10)) = some (.int .i64 a.f0) ∧ w'.cell? ⟨((ada.add (i * 10))).block, ((ada.add (i * 10))).off + 1, none⟩ = some (.string a.f1) ∧ w'.cell? ⟨((ada.add (i * 10))).block, ((ada.add (i * 10))).off + 2, none⟩ = some (.int .i64 a.f2) ∧ w'.cell? ⟨((ada.add (i * 10))).block, ((ada.add (i * 10))).off + 3, none⟩ = some (.slice B3 a.f3.length d3) ∧ w'.cell? ⟨((ada.add (i * 10))).block, ((ada.add (i * 10))).off + 4, none⟩ = some (.int .i64 a.f4.f0) ∧ w'.cell? ⟨((ada.add (i * 10))).block, ((ada.add (i * 10))).off + 5, none⟩ = some (.string a.f4.f1) ∧ w'.cell? ⟨((ada.add (i * 10))).block, ((ada.add (i * 10))).off + 6, none⟩ = some (.int .i64 a.f4.f2) ∧ w'.cell? ⟨((ada.add (i * 10))).block, ((ada.add (i * 10))).off + 7, none⟩ = some (.slice B7 a.f4.f3.length d7) ∧ w'.cell? ⟨((ada.add (i * 10))).block, ((ada.add (i * 10))).off + 8, none⟩ = some (.slice B8 a.f4.f4.length d8) ∧ w'.cell? ⟨((ada.add (i * 10))).block, ((ada.add (i * 10))).off + 9, none⟩ = some (.slice B9 a.f4.f5.length d9)) (ds := [18, 20]) #[false, false, false, false, false, false, false, false, false, false, false, false, false, false, false, false, false, false, false, false, false] (by kernel_rfl) rfl rfl ⟨(blk_cell (blk_below hXb.out HB_) 1).trans rfl, (blk_cell (blk_below (blk_below hbx.out hBr.out) HB_) 5).trans rfl, (he.out.below HB_).1, (he.out.below HB_).2.1, (he.out.below HB_).2.2.1, (he.out.below HB_).2.2.2.1, (he.out.below HB_).2.2.2.2.1, (he.out.below HB_).2.2.2.2.2.1, (he.out.below HB_).2.2.2.2.2.2.1, (he.out.below HB_).2.2.2.2.2.2.2.1, (he.out.below HB_).2.2.2.2.2.2.2.2.1, (he.out.below HB_).2.2.2.2.2.2.2.2.2⟩ (fun hHeld => ?_)
      generalize wr.drew = W9 at *
      refine pure_ (i := 0) (N := some 97) (v := ?_) (a' := ?_) #[true, false, false, false, false, false, false, false, false, false, false, false, false, false, false, false, false, false, false, false, false] rfl rfl (by kernel_rfl) (fun _ _ _ h => h) (Or.inl ⟨by rfl, ?_⟩) ?_ ?_
      rotate_left
      · intro w'
        go_simp
        with_reducible rfl
      rotate_left
      · simp only [Act.put, List.setIfInBounds_toArray, List.set_cons_zero, List.set_cons_succ, i64_w, i32_w]
        rfl
      refine pure_ (i := 2) (N := some 99) (v := ?_) (a' := ?_) #[true, false, true, false, false, false, false, false, false, false, false, false, false, false, false, false, false, false, false, false, false] rfl rfl (by kernel_rfl) (fun _ _ _ h => h) (Or.inl ⟨by rfl, ?_⟩) ?_ ?_
      rotate_left
      · intro w'
        go_simp
        with_reducible rfl
      rotate_left
      · simp only [Act.put, List.setIfInBounds_toArray, List.set_cons_zero, List.set_cons_succ, i64_w, i32_w]
        rfl
      refine pure_ (i := 4) (N := some 101) (v := ?_) (a' := ?_) #[true, false, true, false, true, false, false, false, false, false, false, false, false, false, false, false, false, false, false, false, false] rfl rfl (by kernel_rfl) (fun _ _ _ h => h) (Or.inl ⟨by rfl, ?_⟩) ?_ ?_
      rotate_left
      · intro w'
        go_simp
        with_reducible rfl
      rotate_left
      · simp only [Act.put, List.setIfInBounds_toArray, List.set_cons_zero, List.set_cons_succ, i64_w, i32_w]
        rfl
      refine pure_ (i := 8) (N := some 105) (v := ?_) (a' := ?_) #[true, false, true, false, true, false, false, false, true, false, false, false, false, false, false, false, false, false, false, false, false] rfl rfl (by kernel_rfl) (fun _ _ _ h => h) (Or.inl ⟨by rfl, ?_⟩) ?_ ?_
      rotate_left
      · intro w'
        go_simp
        with_reducible rfl
      rotate_left
      · simp only [Act.put, List.setIfInBounds_toArray, List.set_cons_zero, List.set_cons_succ, i64_w, i32_w]
        rfl
      refine pure_ (i := 10) (N := some 107) (v := ?_) (a' := ?_) #[true, false, true, false, true, false, false, false, true, false, true, false, false, false, false, false, false, false, false, false, false] rfl rfl (by kernel_rfl) (fun _ _ _ h => h) (Or.inl ⟨by rfl, ?_⟩) ?_ ?_
      rotate_left
      · intro w'
        go_simp
        with_reducible rfl
      rotate_left
      · simp only [Act.put, List.setIfInBounds_toArray, List.set_cons_zero, List.set_cons_succ, i64_w, i32_w]
        rfl
      refine take_ (i := 1) (N := some 98) (v := ?_) (a' := ?_) #[true, true, true, false, true, false, false, false, true, false, true, false, false, false, false, false, false, false, false, false, false] rfl rfl (by kernel_rfl) (fun _ _ _ h => h) (Or.inl ⟨by rfl, ?_⟩) hHeld ?_ ?_
      rotate_left
      · rintro w' ⟨s0, s1, s2, s3, s4, s5, s6, s7, s8, s9, s10, s11⟩
        go_simp
        with_reducible rfl
      rotate_left
      · simp only [Act.put, List.setIfInBounds_toArray, List.set_cons_zero, List.set_cons_succ, i64_w, i32_w]
        rfl
      refine take_ (i := 3) (N := some 100) (v := ?_) (a' := ?_) #[true, true, true, true, true, false, false, false, true, false, true, false, false, false, false, false, false, false, false, false, false] rfl rfl (by kernel_rfl) (fun _ _ _ h => h) (Or.inl ⟨by rfl, ?_⟩) hHeld ?_ ?_
      rotate_left
      · rintro w' ⟨s0, s1, s2, s3, s4, s5, s6, s7, s8, s9, s10, s11⟩
        go_simp
        with_reducible rfl
      rotate_left
      · simp only [Act.put, List.setIfInBounds_toArray, List.set_cons_zero, List.set_cons_succ, i64_w, i32_w]
        rfl
      refine pure_ (i := 5) (N := some 102) (v := ?_) (a' := ?_) #[true, true, true, true, true, true, false, false, true, false, true, false, false, false, false, false, false, false, false, false, false] rfl rfl (by kernel_rfl) (fun _ _ _ h => h) (Or.inl ⟨by rfl, ?_⟩) ?_ ?_
      rotate_left
      · intro w'
        go_simp
        with_reducible rfl
      rotate_left
      · simp only [Act.put, List.setIfInBounds_toArray, List.set_cons_zero, List.set_cons_succ, i64_w, i32_w]
        rfl
      refine take_ (i := 6) (N := some 103) (v := ?_) (a' := ?_) #[true, true, true, true, true, true, true, false, true, false, true, false, false, false, false, false, false, false, false, false, false] rfl rfl (by kernel_rfl) (fun _ _ _ h => h) (Or.inl ⟨by rfl, ?_⟩) hHeld ?_ ?_
      rotate_left
      · rintro w' ⟨s0, s1, s2, s3, s4, s5, s6, s7, s8, s9, s10, s11⟩
        go_simp
        with_reducible rfl
      rotate_left
      · simp only [Act.put, List.setIfInBounds_toArray, List.set_cons_zero, List.set_cons_succ, i64_w, i32_w]
        rfl
      refine take_ (i := 9) (N := some 106) (v := ?_) (a' := ?_) #[true, true, true, true, true, true, true, false, true, true, true, false, false, false, false, false, false, false, false, false, false] rfl rfl (by kernel_rfl) (fun _ _ _ h => h) (Or.inl ⟨by rfl, ?_⟩) hHeld ?_ ?_
      rotate_left
      · rintro w' ⟨s0, s1, s2, s3, s4, s5, s6, s7, s8, s9, s10, s11⟩
        go_simp
        with_reducible rfl
      rotate_left
      · simp only [Act.put, List.setIfInBounds_toArray, List.set_cons_zero, List.set_cons_succ, i64_w, i32_w]
        rfl
      refine pure_ (i := 11) (N := some 108) (v := ?_) (a' := ?_) #[true, true, true, true, true, true, true, false, true, true, true, true, false, false, false, false, false, false, false, false, false] rfl rfl (by kernel_rfl) (fun _ _ _ h => h) (Or.inl ⟨by rfl, ?_⟩) ?_ ?_
      rotate_left
      · intro w'
        go_simp
        with_reducible rfl
      rotate_left
      · simp only [Act.put, List.setIfInBounds_toArray, List.set_cons_zero, List.set_cons_succ, i64_w, i32_w]
        rfl
      refine pure_ (i := 12) (N := some 109) (v := ?_) (a' := ?_) #[true, true, true, true, true, true, true, false, true, true, true, true, true, false, false, false, false, false, false, false, false] rfl rfl (by kernel_rfl) (fun _ _ _ h => h) (Or.inl ⟨by rfl, ?_⟩) ?_ ?_
      rotate_left
      · intro w'
        go_simp
        with_reducible rfl
      rotate_left
      · simp only [Act.put, List.setIfInBounds_toArray, List.set_cons_zero, List.set_cons_succ, i64_w, i32_w]
        rfl
      refine take_ (i := 13) (N := some 110) (v := ?_) (a' := ?_) #[true, true, true, true, true, true, true, false, true, true, true, true, true, true, false, false, false, false, false, false, false] rfl rfl (by kernel_rfl) (fun _ _ _ h => h) (Or.inl ⟨by rfl, ?_⟩) hHeld ?_ ?_
      rotate_left
      · rintro w' ⟨s0, s1, s2, s3, s4, s5, s6, s7, s8, s9, s10, s11⟩
        go_simp
        with_reducible rfl
      rotate_left
      · simp only [Act.put, List.setIfInBounds_toArray, List.set_cons_zero, List.set_cons_succ, i64_w, i32_w]
        rfl
      refine one_ (i := 7) (N := some 104) #[true, true, true, true, true, true, true, true, true, true, true, true, true, true, false, false, false, false, false, false, false] rfl rfl (by kernel_rfl) (by decide) (fun K hK => ?_)
      refine goes_ Tryd.func54 (by kernel_rfl) rfl #[.agg #[.int .i64 a.f0, .string a.f1, .int .i64 a.f2, .slice B3 a.f3.length d3, .int .i64 a.f4.f0, .string a.f4.f1, .int .i64 a.f4.f2, .slice B7 a.f4.f3.length d7, .slice B8 a.f4.f4.length d8, .slice B9 a.f4.f5.length d9]] (by rfl) rfl rfl (by simp only [List.map_toArray, List.map_cons, List.map_nil]; rfl) ?_
      (with_reducible refine (altNode_calls a ha.2.1 ha.2.2.1 ha.2.2.2 W9 hg9.out (Kd.C_below h3.out HB_) _ _ _).mono ?_)
      rintro e w4 ⟨s4, A4', n4', c4', rfl, hc4, hn4, hbq4⟩
      refine ⟨_, rfl, ?_⟩
      have HB4 := below_step HB_ hbq4
      refine hK.out _ _ ⟨(blk_cell (blk_below hXb.out HB4) 1).trans rfl, (blk_cell (blk_below (blk_below hbx.out hBr.out) HB4) 5).trans rfl, (he.out.below HB4).1, (he.out.below HB4).2.1, (he.out.below HB4).2.2.1, (he.out.below HB4).2.2.2.1, (he.out.below HB4).2.2.2.2.1, (he.out.below HB4).2.2.2.2.2.1, (he.out.below HB4).2.2.2.2.2.2.1, (he.out.below HB4).2.2.2.2.2.2.2.1, (he.out.below HB4).2.2.2.2.2.2.2.2.1, (he.out.below HB4).2.2.2.2.2.2.2.2.2⟩ (fun hHeld => ?_)
      clear hK K
      refine norm_ (a' := ?_) ?_ ?_
      rotate_left
      · show Act.put _ (some 104) _ = _
        simp only [Act.put, List.setIfInBounds_toArray, List.set_cons_zero, List.set_cons_succ, i64_w, i32_w]
        rfl
      refine one_ (i := 14) (N := some 111) #[true, true, true, true, true, true, true, true, true, true, true, true, true, true, true, false, false, false, false, false, false] rfl rfl (by kernel_rfl) (by decide) (fun K hK => ?_)
      refine goes_ Tryd.func37 (by kernel_rfl) rfl #[.agg #[.int .i64 a.f4.f0, .string a.f4.f1, .int .i64 a.f4.f2, .slice B7 a.f4.f3.length d7, .slice B8 a.f4.f4.length d8, .slice B9 a.f4.f5.length d9]] (by rfl) rfl rfl (by simp only [List.map_toArray, List.map_cons, List.map_nil]; rfl) ?_
      (with_reducible refine (ha.1.at w4 (GG.below hgr.out HB4) (Kd.C_below h7.out HB4) (Kd.C_below h8.out HB4) (Kd.C_below h9.out HB4)).mono ?_)
      rintro e w5 ⟨s5, A5', n5', c5', rfl, hc5, hn5', hbq5⟩
      refine ⟨_, rfl, ?_⟩
      have HB5 := below_step HB4 hbq5
      refine hK.out _ _ ⟨(blk_cell (blk_below hXb.out HB5) 1).trans rfl, (blk_cell (blk_below (blk_below hbx.out hBr.out) HB5) 5).trans rfl, (he.out.below HB5).1, (he.out.below HB5).2.1, (he.out.below HB5).2.2.1, (he.out.below HB5).2.2.2.1, (he.out.below HB5).2.2.2.2.1, (he.out.below HB5).2.2.2.2.2.1, (he.out.below HB5).2.2.2.2.2.2.1, (he.out.below HB5).2.2.2.2.2.2.2.1, (he.out.below HB5).2.2.2.2.2.2.2.2.1, (he.out.below HB5).2.2.2.2.2.2.2.2.2⟩ (fun hHeld => ?_)
      clear hK K
      refine norm_ (a' := ?_) ?_ ?_
      rotate_left
      · show Act.put _ (some 111) _ = _
        simp only [Act.put, List.setIfInBounds_toArray, List.set_cons_zero, List.set_cons_succ, i64_w, i32_w]
        rfl
      refine one_ (i := 15) (N := some 112) #[true, true, true, true, true, true, true, true, true, true, true, true, true, true, true, true, false, false, false, false, false] rfl rfl (by kernel_rfl) (by decide) (fun K hK => ?_)
      refine value_ (w1 := ?_) (v := ?_) (by rfl) rfl ?_ ?_
      rotate_left 2
      · go_simp
        constructor
        · rfl
        · rfl
      have HB6 := below_alloc HB5 (.cells #[.string s4, .slice A4' n4' c4', .int .i64 0, .string s5, .slice A5' n5' c5', .int .i64 0] 56)
      have hbk := blk_new w5 (.cells #[.string s4, .slice A4' n4' c4', .int .i64 0, .string s5, .slice A5' n5' c5', .int .i64 0] 56 (0, 0))
      refine hK.out _ _ ⟨(blk_cell (blk_below hXb.out HB6) 1).trans rfl, (blk_cell (blk_below (blk_below hbx.out hBr.out) HB6) 5).trans rfl, (he.out.below HB6).1, (he.out.below HB6).2.1, (he.out.below HB6).2.2.1, (he.out.below HB6).2.2.2.1, (he.out.below HB6).2.2.2.2.1, (he.out.below HB6).2.2.2.2.2.1, (he.out.below HB6).2.2.2.2.2.2.1, (he.out.below HB6).2.2.2.2.2.2.2.1, (he.out.below HB6).2.2.2.2.2.2.2.2.1, (he.out.below HB6).2.2.2.2.2.2.2.2.2⟩ (fun hHeld => ?_)
      clear hK K
      refine norm_ (a' := ?_) ?_ ?_
      rotate_left
      · show Act.put _ (some 112) _ = _
        simp only [Act.put, List.setIfInBounds_toArray, List.set_cons_zero, List.set_cons_succ, i64_w, i32_w]
        rfl
      refine one_ (i := 16) (N := some 113) #[true, true, true, true, true, true, true, true, true, true, true, true, true, true, true, true, true, false, false, false, false] rfl rfl (by kernel_rfl) (by decide) (fun K hK => ?_)
      refine goes_ Tryd.func52 (by kernel_rfl) rfl #[.slice (some ⟨w5.heap.size, 0, none⟩) 2 2] (by rfl) rfl rfl (by simp only [List.map_toArray, List.map_cons, List.map_nil]; rfl) ?_
      (with_reducible refine (l_calls _ _ _ _).mono ?_)
      rintro e w7 ⟨rfl, hbq7⟩
      refine ⟨_, rfl, ?_⟩
      have HB7 := below_step HB6 hbq7
      have hn7 : NL w7 W9.heap.size (some ⟨w5.heap.size, 0, none⟩) 2 := NL.two (blk_below hbk hbq7) (Nat.le_trans hbq4.size hbq5.size) (((hn4.below hbq5).below (below_alloc (Below.refl _ _) _)).below hbq7) hc4 (((hn5'.mono hbq4.size).below (below_alloc (Below.refl _ _) _)).below hbq7) hc5
      refine hK.out _ _ ⟨(blk_cell (blk_below hXb.out HB7) 1).trans rfl, (blk_cell (blk_below (blk_below hbx.out hBr.out) HB7) 5).trans rfl, (he.out.below HB7).1, (he.out.below HB7).2.1, (he.out.below HB7).2.2.1, (he.out.below HB7).2.2.2.1, (he.out.below HB7).2.2.2.2.1, (he.out.below HB7).2.2.2.2.2.1, (he.out.below HB7).2.2.2.2.2.2.1, (he.out.below HB7).2.2.2.2.2.2.2.1, (he.out.below HB7).2.2.2.2.2.2.2.2.1, (he.out.below HB7).2.2.2.2.2.2.2.2.2⟩ (fun hHeld => ?_)
      clear hK K
      refine norm_ (a' := ?_) ?_ ?_
      rotate_left
      · show Act.put _ (some 113) _ = _
        simp only [Act.put, List.setIfInBounds_toArray, List.set_cons_zero, List.set_cons_succ, i64_w, i32_w]
        rfl
      refine one_ (i := 17) (N := some 114) #[true, true, true, true, true, true, true, true, true, true, true, true, true, true, true, true, true, true, false, false, false] rfl rfl (by kernel_rfl) (by decide) (fun K hK => ?_)
      refine value_ (w1 := ?_) (v := ?_) (by rfl) rfl ?_ ?_
      rotate_left 2
      · go_simp
        constructor
        · rfl
        · rfl
      have HBb := below_alloc HB7 (.cells #[.string ⟨#[]⟩, .slice (some ⟨w5.heap.size, 0, none⟩) 2 2, .int .i64 0] 56)
      refine hK.out _ _ ⟨(blk_cell (blk_below hXb.out HBb) 1).trans rfl, (blk_cell (blk_below (blk_below hbx.out hBr.out) HBb) 5).trans rfl, (he.out.below HBb).1, (he.out.below HBb).2.1, (he.out.below HBb).2.2.1, (he.out.below HBb).2.2.2.1, (he.out.below HBb).2.2.2.2.1, (he.out.below HBb).2.2.2.2.2.1, (he.out.below HBb).2.2.2.2.2.2.1, (he.out.below HBb).2.2.2.2.2.2.2.1, (he.out.below HBb).2.2.2.2.2.2.2.2.1, (he.out.below HBb).2.2.2.2.2.2.2.2.2⟩ (fun hHeld => ?_)
      clear hK K
      refine norm_ (a' := ?_) ?_ ?_
      rotate_left
      · show Act.put _ (some 114) _ = _
        simp only [Act.put, List.setIfInBounds_toArray, List.set_cons_zero, List.set_cons_succ, i64_w, i32_w]
        rfl
      refine last_ (i := 18) (N := some 115) #[true, true, true, true, true, true, true, true, true, true, true, true, true, true, true, true, true, true, true, false, false] rfl rfl (by kernel_rfl) (by decide) (fun K hK => ?_)
      refine app_step (w0 := w7) W0.heap.size (by rfl) (.tmp 98) (.tmp 114) rfl (A := A) (x0 := some xb) (n := m) (c := c) (s1 := ⟨#[]⟩) (A1 := some ⟨w5.heap.size, 0, none⟩) (n1 := 2) (c1 := 2) (q := W9.heap.size) rfl rfl (NR.below hrow.out HB7) hn7 (Nat.le_refl _) ?_ ?_ ?_ (Below.refl _ _) ?_ ?_ ?_
      · intro k hk; have h1 := NR.lt hrow.out k hk; have h2 := HB_.size; omega
      · have h1 := hxs.out; have h2 := HB_.size; omega
      · intro y hy; obtain rfl := Option.some.inj hy; have h1 := hxs.out; have h2 := HB_.size; have h3 := HB7.size; omega
      · have h1 := hxs.out; have h2 := HB7.size; omega
      · have h1 := hms.out; omega
      intro A6 c6 w6 hr6 hb6 hg6
      have hx5 := blk_below hXb.out HB7
      have hx6 := (NR.keep (NR.below hrow.out HB7) hg6 (Array.getElem?_eq_some_iff.1 hx5).1).trans hx5
      have hcz := (blk_cell hx6 1).trans rfl
      have hfz := blk_frozen hx6 1
      refine hK.out _ _ ?_
      clear hK K
      refine norm_ (a' := ?_) ?_ ?_
      rotate_left
      · show Act.put _ (some 115) _ = _
        simp only [Act.put, List.setIfInBounds_toArray, List.set_cons_zero, List.set_cons_succ, i64_w, i32_w]
        rfl
      refine pure_ (i := 19) (N := some 116) (v := ?_) (a' := ?_) #[true, true, true, true, true, true, true, true, true, true, true, true, true, true, true, true, true, true, true, true, false] rfl rfl (by kernel_rfl) (fun _ _ _ h => h) (Or.inl ⟨by rfl, ?_⟩) ?_ ?_
      rotate_left
      · intro w'
        go_simp
        with_reducible rfl
      rotate_left
      · simp only [Act.put, List.setIfInBounds_toArray, List.set_cons_zero, List.set_cons_succ, i64_w, i32_w]
        rfl
      refine last_ (i := 20) (N := none) #[true, true, true, true, true, true, true, true, true, true, true, true, true, true, true, true, true, true, true, true, true] rfl rfl (by kernel_rfl) (by decide) (fun K hK => ?_)
      refine skip_ (w1 := ?_) (by rfl) rfl ?_ ?_
      rotate_left
      · go_simp
        rfl
      refine hK.out _ _ ?_
      clear hK K
      refine done_ (by kernel_rfl) ?_
      obtain ⟨W7, hW7⟩ : ∃ W7, w6.setCell ⟨xb, 1, none⟩ (.slice A6 (m + 1) c6) = W7 := ⟨_, rfl⟩
      have hX7 : Aside0 (W7.heap[xb]? = some (.cells #[.string ⟨#[]⟩, .slice A6 (m + 1) c6, .int .i64 0] 56 (0, 0))) := ⟨by rw [← hW7]; exact blk_put hx6 1 _ rfl⟩
      have hr7 : Aside0 (NR W7 W0.heap.size (some xb) A6 (m + 1) c6) := ⟨by rw [← hW7]; exact NR.far hr6 (.inr rfl) _⟩
      have hB7 : Aside0 (Below W0.heap.size W0 W7) := ⟨by rw [← hW7]; exact ((hBr.out.trans (HB7.mono hBr.out.size)).trans hb6).setCell (p := ⟨xb, 1, none⟩) (by have h1 := hxs.out; show W0.heap.size ≤ xb; omega) _⟩
      have hs7 : Aside0 (xb + 1 ≤ W7.heap.size ∧ W0.heap.size ≤ xb) := ⟨by have h1 := (Array.getElem?_eq_some_iff.1 hX7.out).1; have h2 := hxs.out; omega⟩
      rw [hW7]
      clear hHeld
      have hjn : Value.int .i64 (wrap64 ((i : Int) + 1)) = .int .i64 ((i + 1 : Nat) : Int) := by rw [show wrap64 ((i : Int) + 1) = (i : Int) + 1 by have h2 := hn5.out; unfold wrap64; omega]; rfl
      have hi7 : i + 1 + (gk - 1) = n5 + 1 ∧ 1 ≤ gk - 1 ∧ gk - 1 < gk := by omega
      have hm7 : Aside0 (m + 1 ≤ i + 1 + 2) := ⟨by have := hm.out; omega⟩
      clear q1 p0 p1
      go_wp2
      go_roundg (gk - 1)
      case measure => exact hi7.2.2
      case rel => exact ⟨i + 1, m + 1, c6, A6, by first | exact hjn | rfl, hi7.1, hi7.2.1, hm7, hX7, hr7, hB7, hs7⟩
    · have q1 : decide ((i : Int) < (n5 : Int)) = false := decide_eq_false (by omega)
      have x0 := (blk_cell hXb.out 0).trans rfl
      have x1 := (blk_cell hXb.out 1).trans rfl
      have x2 := (blk_cell hXb.out 2).trans rfl
      have hr1 := blk_below hrx.out hBr.out
      have j0 := (blk_cell hr1 0).trans rfl
      have j1 := (blk_cell hr1 1).trans rfl
      have j2 := (blk_cell hr1 2).trans rfl
      have z0 := blk_frozen hr1 0
      have z1 := blk_frozen hr1 1
      have z2 := blk_frozen hr1 2
      have hl5 : Aside0 (w.heap.size + 1 < W0.heap.size ∧ w.heap.size ≤ W0.heap.size) := ⟨by have h1 := hl1.out; have h2 := hxs.out; omega⟩
      go_wp2
      refine bodyPost_ret (v := .agg #[.string ⟨#[]⟩, .slice A m c, .int .i64 0]) (by simp [results, Tryd.results37, go_sem, *]) rfl ⟨_, A, _, c, rfl, hrow.out.list.2, ?_, ?_⟩
      · exact ((((hrow.out.list.1).far (p := ⟨w.heap.size + 1, 0, none⟩) (.inl hl5.out.1) _).far (p := ⟨w.heap.size + 1, 1, none⟩) (.inl hl5.out.1) _).far (p := ⟨w.heap.size + 1, 2, none⟩) (.inl hl5.out.1) _).list.mono hl5.out.2
      · exact (((HB0.out.trans (hBr.out.mono HB0.out.size)).setCell (p := ⟨w.heap.size + 1, 0, none⟩) (Nat.le_succ _) _).setCell (p := ⟨w.heap.size + 1, 1, none⟩) (Nat.le_succ _) _).setCell (p := ⟨w.heap.size + 1, 2, none⟩) (Nat.le_succ _) _
end Go.Proofs.YtmoeekidmkhkoaaDoor.FreeA

