/- gristmillmake.Main. No condition beyond those that each states. -/
import Derived.Test.YtlgpoigbadajnaaDoorDepI
namespace Go.Proofs.YtlgpoigbadajnaaDoor.DepA
open Go.RowKit Go.Proofs.YtlgpoigbadajnaaDoorW.PrintWords Go.Proofs.YtlgpoigbadajnaaDoorW.PrintLast Go.Proofs.YtlgpoigbadajnaaDoorW.PrintMore Go.Proofs.YtlgpoigbadajnaaDoor.PDepA
set_option linter.unusedVariables false
set_option linter.unusedSimpArgs false
theorem heapE : Kd.Heap k29 := Kd.heap_fix (fun d hd => Kd.heap_iso _ (Kd.heap_pair (Kd.heap_int _) (Kd.heap_pair Kd.heap_string (Kd.heap_pair (Kd.heap_int _) (Kd.heap_pair (Kd.heap_slice _ Kd.heap_string) (Kd.heap_pair (Kd.heap_slice _ hd) (Kd.heap_slice _ (Kd.heap_iso _ (Kd.heap_pair (Kd.heap_int _) (Kd.heap_pair Kd.heap_string (Kd.heap_pair (Kd.heap_int _) (Kd.heap_pair (Kd.heap_slice _ Kd.heap_string) hd))))))))))))
theorem heapD : Kd.Heap k34 := Kd.heap_iso _ (Kd.heap_pair Kd.heap_string (Kd.heap_pair (Kd.heap_slice _ Kd.heap_string) heapE))
theorem below_own {W W1 : World} (hg : W.grownBy W1 none) : Below W.heap.size W W1 := ⟨hg.os, hg.tape, hg.output, hg.size, fun j hj => hg.block j hj (by simp)⟩
theorem mainF {w W : World} {ok0 : Nat → Prop} {x : S29} {A3 A4 A5 : Option Addr} {n3 c3 n4 c4 n5 c5 b : Nat} (hK : Kd.FK k29 w ok0 x [.int .i64 x.f0, .string x.f1, .int .i64 x.f2, .slice A3 n3 c3, .slice A4 n4 c4, .slice A5 n5 c5]) (hw : ∀ k, k < w.heap.size → W.heap[k]? = w.heap[k]?) (hb : W.heap[b]? = some (.cells #[.string ⟨#[109, 97, 105, 110]⟩, .slice none 0 0, .int .i64 x.f0, .string x.f1, .int .i64 x.f2, .slice A3 n3 c3, .slice A4 n4 c4, .slice A5 n5 c5] 34 (0, 0))) :
    Kd.F k34 W (fun k => (ok0 k ∧ k < w.heap.size) ∨ k = b) (some ⟨b, 0, none⟩) 1 [⟨⟨#[109, 97, 105, 110]⟩, [], x⟩] := by
  intro W' h
  have hlt := (Array.getElem?_eq_some_iff.1 hb).1
  refine C_cells ((h b (.inr rfl) hlt).trans hb) (Reps.c8 ?_ (Reps.none _ _)) (by simp)
  have hKW : k29.K W' x _ := hK W' (fun k hok hk => by
    have h1 := hw k hk
    have h2 : k < W.heap.size := by
      by_cases hk2 : k < W.heap.size
      · exact hk2
      · rw [Array.getElem?_eq_none (by omega), Array.getElem?_eq_getElem hk] at h1
        cases h1
    exact (h k (.inl ⟨hok, hk⟩) h2).trans h1)
  exact ⟨[.string ⟨#[109, 97, 105, 110]⟩], _, rfl, rfl, ⟨[.slice none 0 0], _, rfl, ⟨none, 0, rfl, Nat.le_refl _, Kd.C_nil _ _⟩, hKW⟩⟩
set_option maxHeartbeats 16000000 in
set_option maxRecDepth 100000 in
theorem mainF_calls (w : World) {ok0 : Nat → Prop} (x : S29) {A3 A4 A5 : Option Addr} {n3 c3 n4 c4 n5 c5 : Nat} (hKx : Kd.FK k29 w ok0 x [.int .i64 x.f0, .string x.f1, .int .i64 x.f2, .slice A3 n3 c3, .slice A4 n4 c4, .slice A5 n5 c5]) (ds : List S34) (hlen : ds.length ≤ 1000) {A : Option Addr} {c : Nat} (hC : Kd.F k34 w ok0 A ds.length ds) :
    Calls Tryd.prog 12 #[.agg #[.int .i64 x.f0, .string x.f1, .int .i64 x.f2, .slice A3 n3 c3, .slice A4 n4 c4, .slice A5 n5 c5], .slice A ds.length c] w fun e w' => ∃ A1 A2 c2, e = .returned (.agg #[.slice A1 1 1, .slice A2 (ds.length + 1) c2]) ∧ Kd.F k34 w' (fun k => (ok0 k ∧ k < w.heap.size) ∨ w.heap.size ≤ k) A2 (ds.length + 1) (ds ++ [⟨⟨#[109, 97, 105, 110]⟩, [], x⟩]) ∧ Below w.heap.size w w' := by
  have E : ∀ W : World, ∀ o : Obj, (W.alloc o).heap.size = W.heap.size + 1 := fun W o => Array.size_push _
  obtain ⟨W0, hW0⟩ : ∃ W0, (w.alloc (.cells #[.int .i64 x.f0, .string x.f1, .int .i64 x.f2, .slice A3 n3 c3, .slice A4 n4 c4, .slice A5 n5 c5] 29)).alloc (.cells #[.slice none 0 0, .slice none 0 0] 38) = W0 := ⟨_, rfl⟩
  have HB0 : Aside0 (Below w.heap.size w W0) := ⟨by rw [← hW0]; exact below_alloc (below_alloc (Below.refl _ _) _) _⟩
  have hbx : Aside0 (W0.heap[w.heap.size]? = some (.cells #[.int .i64 x.f0, .string x.f1, .int .i64 x.f2, .slice A3 n3 c3, .slice A4 n4 c4, .slice A5 n5 c5] 29 (0, 0))) := ⟨by rw [← hW0]; exact (Below.heap_alloc _ _ _ (by rw [E]; omega)).trans (blk_new w _)⟩
  have hrx : Aside0 (W0.heap[w.heap.size + 1]? = some (.cells #[.slice none 0 0, .slice none 0 0] 38 (0, 0))) := ⟨by rw [← hW0, ← E w]; exact blk_new _ _⟩
  have hl1 : Aside0 (w.heap.size + 1 < W0.heap.size) := ⟨by rw [← hW0, E, E]; omega⟩
  have hF : Aside0 (Kd.F k34 w (fun k => ok0 k ∧ k < w.heap.size) A ds.length ds) := ⟨Kd.F_bound hC⟩
  obtain ⟨okN, hokN⟩ : ∃ okN : Nat → Prop, okN = fun k => (ok0 k ∧ k < w.heap.size) ∨ W0.heap.size ≤ k := ⟨_, rfl⟩
  have hok1 : Aside0 (∀ k, W0.heap.size ≤ k → okN k) := ⟨fun k hk => by rw [hokN]; exact .inr hk⟩
  have hok2 : Aside0 (∀ k, ok0 k ∧ k < w.heap.size → okN k) := ⟨fun k hk => by rw [hokN]; exact .inl hk⟩
  have hok3 : Aside0 (∀ k, okN k → k ≠ w.heap.size + 1) := ⟨fun k hk e => by rw [hokN] at hk; have := hl1.out; rcases hk with hk | hk <;> omega⟩
  have hok4 : Aside0 (∀ k, okN k → (ok0 k ∧ k < w.heap.size) ∨ w.heap.size ≤ k) := ⟨fun k hk => by rw [hokN] at hk; have := hl1.out; rcases hk with hk | hk; exact .inl hk; exact .inr (by omega)⟩
  clear hokN
  replace hKx := Aside0.mk hKx
  clear hC
  go_enter Tryd.func12, Tryd.ntmps12
  go_wp2
  try rw [hW0]
  clear hW0
  have HB_ : Below W0.heap.size W0 W0.drew := below_drew1 (Below.refl _ _)
  refine start_ (n := 11) (S := fun w' => w'.cell? ⟨w.heap.size, 0, none⟩ = some (.int .i64 x.f0) ∧ w'.cell? ⟨w.heap.size, 1, none⟩ = some (.string x.f1) ∧ w'.cell? ⟨w.heap.size, 2, none⟩ = some (.int .i64 x.f2) ∧ w'.cell? ⟨w.heap.size, 3, none⟩ = some (.slice A3 n3 c3) ∧ w'.cell? ⟨w.heap.size, 4, none⟩ = some (.slice A4 n4 c4) ∧ w'.cell? ⟨w.heap.size, 5, none⟩ = some (.slice A5 n5 c5)) (ds := [10]) #[false, false, false, false, false, false, false, false, false, false, false] (by kernel_rfl) rfl rfl ⟨(blk_cell (blk_below hbx.out HB_) 0).trans rfl, (blk_cell (blk_below hbx.out HB_) 1).trans rfl, (blk_cell (blk_below hbx.out HB_) 2).trans rfl, (blk_cell (blk_below hbx.out HB_) 3).trans rfl, (blk_cell (blk_below hbx.out HB_) 4).trans rfl, (blk_cell (blk_below hbx.out HB_) 5).trans rfl⟩ (fun hHeld => ?_)
  generalize W0.drew = W9 at *
  refine pure_ (i := 3) (N := some 8) (v := ?_) (a' := ?_) #[false, false, false, true, false, false, false, false, false, false, false] rfl rfl (by kernel_rfl) (fun _ _ _ h => h) (Or.inl ⟨by rfl, ?_⟩) ?_ ?_
  rotate_left
  · intro w'
    go_simp
    with_reducible rfl
  rotate_left
  · simp only [Act.put, List.setIfInBounds_toArray, List.set_cons_zero, List.set_cons_succ, i64_w, i32_w]
    rfl
  refine take_ (i := 5) (N := some 10) (v := ?_) (a' := ?_) #[false, false, false, true, false, true, false, false, false, false, false] rfl rfl (by kernel_rfl) (fun _ _ _ h => h) (Or.inl ⟨by rfl, ?_⟩) hHeld ?_ ?_
  rotate_left
  · rintro w' ⟨s0, s1, s2, s3, s4, s5⟩
    go_simp
    with_reducible rfl
  rotate_left
  · simp only [Act.put, List.setIfInBounds_toArray, List.set_cons_zero, List.set_cons_succ, i64_w, i32_w]
    rfl
  refine join_ (σ := Option Addr × Option Addr × Option Addr × Value × Value × Value × Value) 2 #[true, true, true, true, true, true, true, true, true, false, false] (fun s_ => [(5, .agg #[.string ⟨#[76, 105, 115, 116]⟩, .slice s_.1 1 1, .slice s_.2.1 2 2]), (6, .slice s_.2.2.1 1 1), (7, s_.2.2.2.1), (9, s_.2.2.2.2.1), (11, .agg #[.string ⟨#[109, 97, 105, 110]⟩, .slice none 0 0, .int .i64 x.f0, .string x.f1, .int .i64 x.f2, .slice A3 n3 c3, .slice A4 n4 c4, .slice A5 n5 c5]), (12, s_.2.2.2.2.2.1), (13, s_.2.2.2.2.2.2)]) (fun s_ w' => (Below W0.heap.size W0 w') ∧ (Kd.N k34 34 w' W0.heap.size okN (s_.2.2.2.2.2.2) (ds ++ [⟨⟨#[109, 97, 105, 110]⟩, [], x⟩]))) ?_ ?_
  rotate_left
  · intro hJ0_1_2_4_6_7_8
    refine join_ (σ := Option Addr × Option Addr × Option Addr × Value × Value × Value × Value) 3 #[true, true, true, true, true, true, true, true, false, false, false] (fun s_ => [(5, .agg #[.string ⟨#[76, 105, 115, 116]⟩, .slice s_.1 1 1, .slice s_.2.1 2 2]), (6, .slice s_.2.2.1 1 1), (7, s_.2.2.2.1), (9, s_.2.2.2.2.1), (11, .agg #[.string ⟨#[109, 97, 105, 110]⟩, .slice none 0 0, .int .i64 x.f0, .string x.f1, .int .i64 x.f2, .slice A3 n3 c3, .slice A4 n4 c4, .slice A5 n5 c5]), (12, s_.2.2.2.2.2.1)]) (fun s_ w' => (Below W0.heap.size W0 w') ∧ (Kd.N k34 34 w' W0.heap.size okN (s_.2.2.2.2.1) (ds)) ∧ (∃ b, s_.2.2.2.2.2.1 = .slice (some ⟨b, 0, none⟩) 1 1 ∧ w'.heap[b]? = some (.cells #[.string ⟨#[109, 97, 105, 110]⟩, .slice none 0 0, .int .i64 x.f0, .string x.f1, .int .i64 x.f2, .slice A3 n3 c3, .slice A4 n4 c4, .slice A5 n5 c5] 34 (0, 0)) ∧ W0.heap.size ≤ b ∧ some b ≠ (s_.2.2.2.2.1).ownBlock)) ?_ ?_
    rotate_left
    · intro hJ0_1_2_4_6_7
      refine join_ (σ := Option Addr × Option Addr × Option Addr × Value × Value × Value × Value) 3 #[true, false, true, true, true, true, true, true, true, false, false] (fun s_ => [(5, .agg #[.string ⟨#[76, 105, 115, 116]⟩, .slice s_.1 1 1, .slice s_.2.1 2 2]), (7, s_.2.2.2.1), (9, s_.2.2.2.2.1), (11, .agg #[.string ⟨#[109, 97, 105, 110]⟩, .slice none 0 0, .int .i64 x.f0, .string x.f1, .int .i64 x.f2, .slice A3 n3 c3, .slice A4 n4 c4, .slice A5 n5 c5]), (12, s_.2.2.2.2.2.1), (13, s_.2.2.2.2.2.2)]) (fun s_ w' => (Below W0.heap.size W0 w') ∧ (Kd.N k34 34 w' W0.heap.size okN (s_.2.2.2.2.2.2) (ds ++ [⟨⟨#[109, 97, 105, 110]⟩, [], x⟩]))) ?_ ?_
      rotate_left
      · intro hJ0_2_4_6_7_8
        refine join_ (σ := Option Addr × Option Addr × Option Addr × Value × Value × Value × Value) 4 #[true, true, true, true, true, true, true, false, false, false, false] (fun s_ => [(5, .agg #[.string ⟨#[76, 105, 115, 116]⟩, .slice s_.1 1 1, .slice s_.2.1 2 2]), (6, .slice s_.2.2.1 1 1), (7, s_.2.2.2.1), (9, s_.2.2.2.2.1), (11, .agg #[.string ⟨#[109, 97, 105, 110]⟩, .slice none 0 0, .int .i64 x.f0, .string x.f1, .int .i64 x.f2, .slice A3 n3 c3, .slice A4 n4 c4, .slice A5 n5 c5])]) (fun s_ w' => (Below W0.heap.size W0 w') ∧ (Kd.N k34 34 w' W0.heap.size okN (s_.2.2.2.2.1) (ds))) ?_ ?_
        rotate_left
        · intro hJ0_1_2_4_6
          refine join_ (σ := Option Addr × Option Addr × Option Addr × Value × Value × Value × Value) 4 #[true, false, true, true, true, true, true, true, false, false, false] (fun s_ => [(5, .agg #[.string ⟨#[76, 105, 115, 116]⟩, .slice s_.1 1 1, .slice s_.2.1 2 2]), (7, s_.2.2.2.1), (9, s_.2.2.2.2.1), (11, .agg #[.string ⟨#[109, 97, 105, 110]⟩, .slice none 0 0, .int .i64 x.f0, .string x.f1, .int .i64 x.f2, .slice A3 n3 c3, .slice A4 n4 c4, .slice A5 n5 c5]), (12, s_.2.2.2.2.2.1)]) (fun s_ w' => (Below W0.heap.size W0 w') ∧ (Kd.N k34 34 w' W0.heap.size okN (s_.2.2.2.2.1) (ds)) ∧ (∃ b, s_.2.2.2.2.2.1 = .slice (some ⟨b, 0, none⟩) 1 1 ∧ w'.heap[b]? = some (.cells #[.string ⟨#[109, 97, 105, 110]⟩, .slice none 0 0, .int .i64 x.f0, .string x.f1, .int .i64 x.f2, .slice A3 n3 c3, .slice A4 n4 c4, .slice A5 n5 c5] 34 (0, 0)) ∧ W0.heap.size ≤ b ∧ some b ≠ (s_.2.2.2.2.1).ownBlock)) ?_ ?_
          rotate_left
          · intro hJ0_2_4_6_7
            refine join_ (σ := Option Addr × Option Addr × Option Addr × Value × Value × Value × Value) 5 #[true, true, true, true, true, true, false, false, false, false, false] (fun s_ => [(5, .agg #[.string ⟨#[76, 105, 115, 116]⟩, .slice s_.1 1 1, .slice s_.2.1 2 2]), (6, .slice s_.2.2.1 1 1), (7, s_.2.2.2.1), (9, s_.2.2.2.2.1)]) (fun s_ w' => (Below W0.heap.size W0 w') ∧ (Kd.N k34 34 w' W0.heap.size okN (s_.2.2.2.2.1) (ds))) ?_ ?_
            rotate_left
            · intro hJ0_1_2_4
              refine join_ (σ := Option Addr × Option Addr × Option Addr × Value × Value × Value × Value) 5 #[true, false, true, true, true, true, true, false, false, false, false] (fun s_ => [(5, .agg #[.string ⟨#[76, 105, 115, 116]⟩, .slice s_.1 1 1, .slice s_.2.1 2 2]), (7, s_.2.2.2.1), (9, s_.2.2.2.2.1), (11, .agg #[.string ⟨#[109, 97, 105, 110]⟩, .slice none 0 0, .int .i64 x.f0, .string x.f1, .int .i64 x.f2, .slice A3 n3 c3, .slice A4 n4 c4, .slice A5 n5 c5])]) (fun s_ w' => (Below W0.heap.size W0 w') ∧ (Kd.N k34 34 w' W0.heap.size okN (s_.2.2.2.2.1) (ds))) ?_ ?_
              rotate_left
              · intro hJ0_2_4_6
                refine join_ (σ := Option Addr × Option Addr × Option Addr × Value × Value × Value × Value) 6 #[true, true, true, true, false, true, false, false, false, false, false] (fun s_ => [(5, .agg #[.string ⟨#[76, 105, 115, 116]⟩, .slice s_.1 1 1, .slice s_.2.1 2 2]), (6, .slice s_.2.2.1 1 1), (7, s_.2.2.2.1)]) (fun s_ w' => (Below W0.heap.size W0 w') ∧ (Kd.N k34 34 w' W0.heap.size okN (s_.2.2.2.1) ([]))) ?_ ?_
                rotate_left
                · intro hJ0_1_2
                  refine join_ (σ := Option Addr × Option Addr × Option Addr × Value × Value × Value × Value) 6 #[true, false, true, true, true, true, false, false, false, false, false] (fun s_ => [(5, .agg #[.string ⟨#[76, 105, 115, 116]⟩, .slice s_.1 1 1, .slice s_.2.1 2 2]), (7, s_.2.2.2.1), (9, s_.2.2.2.2.1)]) (fun s_ w' => (Below W0.heap.size W0 w') ∧ (Kd.N k34 34 w' W0.heap.size okN (s_.2.2.2.2.1) (ds))) ?_ ?_
                  rotate_left
                  · intro hJ0_2_4
                    refine join_ (σ := Option Addr × Option Addr × Option Addr × Value × Value × Value × Value) 7 #[true, true, false, true, false, true, false, false, false, false, false] (fun s_ => [(5, .agg #[.string ⟨#[76, 105, 115, 116]⟩, .slice s_.1 1 1, .slice s_.2.1 2 2]), (6, .slice s_.2.2.1 1 1)]) (fun s_ w' => (Below W0.heap.size W0 w')) ?_ ?_
                    rotate_left
                    · intro hJ0_1
                      refine join_ (σ := Option Addr × Option Addr × Option Addr × Value × Value × Value × Value) 7 #[true, false, true, true, false, true, false, false, false, false, false] (fun s_ => [(5, .agg #[.string ⟨#[76, 105, 115, 116]⟩, .slice s_.1 1 1, .slice s_.2.1 2 2]), (7, s_.2.2.2.1)]) (fun s_ w' => (Below W0.heap.size W0 w') ∧ (Kd.N k34 34 w' W0.heap.size okN (s_.2.2.2.1) ([]))) ?_ ?_
                      rotate_left
                      · intro hJ0_2
                        refine join_ (σ := Option Addr × Option Addr × Option Addr × Value × Value × Value × Value) 8 #[true, false, false, true, false, true, false, false, false, false, false] (fun s_ => [(5, .agg #[.string ⟨#[76, 105, 115, 116]⟩, .slice s_.1 1 1, .slice s_.2.1 2 2])]) (fun s_ w' => (Below W0.heap.size W0 w')) ?_ ?_
                        rotate_left
                        · intro hJ0
                          refine join_ (σ := Option Addr × Option Addr × Option Addr × Value × Value × Value × Value) 8 #[false, false, true, true, false, true, false, false, false, false, false] (fun s_ => [(7, s_.2.2.2.1)]) (fun s_ w' => (Below W0.heap.size W0 w') ∧ (Kd.N k34 34 w' W0.heap.size okN (s_.2.2.2.1) ([]))) ?_ ?_
                          rotate_left
                          · intro hJ2
                            refine two_ (i := 0) (j := 2) (Ni := some 5) (Nj := some 7) #[true, false, false, true, false, true, false, false, false, false, false] #[false, false, true, true, false, true, false, false, false, false, false] rfl rfl rfl rfl (by kernel_rfl) (by decide) (by decide) (fun K hK => ?_) (fun K hK => ?_)
                            · skip
                              refine goes_ Tryd.func27 (by kernel_rfl) rfl #[] (by rfl) rfl rfl (by simp only [List.map_toArray, List.map_nil]) ?_
                              (with_reducible refine (lists_calls W9).mono ?_)
                              rintro e w3 ⟨x1, x2, rfl, hbq⟩
                              refine ⟨_, rfl, ?_⟩
                              have HBn := below_step HB_ hbq
                              refine hK.out _ _ ⟨(blk_cell (blk_below hbx.out HBn) 0).trans rfl, (blk_cell (blk_below hbx.out HBn) 1).trans rfl, (blk_cell (blk_below hbx.out HBn) 2).trans rfl, (blk_cell (blk_below hbx.out HBn) 3).trans rfl, (blk_cell (blk_below hbx.out HBn) 4).trans rfl, (blk_cell (blk_below hbx.out HBn) 5).trans rfl⟩ (fun hHeld => ?_)
                              clear hK K
                              refine norm_ (a' := ?_) ?_ ?_
                              rotate_left
                              · show Act.put _ (some 5) _ = _
                                simp only [Act.put, List.setIfInBounds_toArray, List.set_cons_zero, List.set_cons_succ, i64_w, i32_w]
                                rfl
                              exact norm_ (by first | (simp only [putAll, Act.put, List.setIfInBounds_toArray, List.set_cons_zero, List.set_cons_succ]; done) | (simp only [putAll, Act.put, List.setIfInBounds_toArray, List.set_cons_zero, List.set_cons_succ]; rfl)) (hJ0 (x1, x2, none, (.slice none 0 0), (.slice none 0 0), (.slice none 0 0), (.slice none 0 0)) _ HBn)
                            · skip
                              refine Kd.N_lit_step k34 (w0 := W0) W0.heap.size 34 (by rfl) rfl (xs := []) (inner := []) (ok := okN) (okp := fun _ => False) ?_ (Reps.none _ _) (fun _ hk => hk.elim) ?_ HB_ HB_.size (by decide) ?_
                              · go_simp
                              · exact hok1.out _ HB_.size
                              intro v3 w3 hn3 hb3 hg3 hat3
                              have hbq : Below W9.heap.size W9 w3 := below_own hg3
                              have HBn := below_step HB_ hbq
                              refine hK.out _ _ ⟨(blk_cell (blk_below hbx.out HBn) 0).trans rfl, (blk_cell (blk_below hbx.out HBn) 1).trans rfl, (blk_cell (blk_below hbx.out HBn) 2).trans rfl, (blk_cell (blk_below hbx.out HBn) 3).trans rfl, (blk_cell (blk_below hbx.out HBn) 4).trans rfl, (blk_cell (blk_below hbx.out HBn) 5).trans rfl⟩ (fun hHeld => ?_)
                              clear hK K
                              refine norm_ (a' := ?_) ?_ ?_
                              rotate_left
                              · show Act.put _ (some 7) _ = _
                                simp only [Act.put, List.setIfInBounds_toArray, List.set_cons_zero, List.set_cons_succ, i64_w, i32_w]
                                rfl
                              exact norm_ (by first | (simp only [putAll, Act.put, List.setIfInBounds_toArray, List.set_cons_zero, List.set_cons_succ]; done) | (simp only [putAll, Act.put, List.setIfInBounds_toArray, List.set_cons_zero, List.set_cons_succ]; rfl)) (hJ2 (none, none, none, v3, (.slice none 0 0), (.slice none 0 0), (.slice none 0 0)) _ ⟨HBn, hn3⟩)
                          · skip
                            rintro ⟨a1, a2, a6, v7, v9, v12, v13⟩ W9 ⟨HB_, hN7⟩
                            have hHeld : W9.cell? ⟨w.heap.size, 0, none⟩ = some (.int .i64 x.f0) ∧ W9.cell? ⟨w.heap.size, 1, none⟩ = some (.string x.f1) ∧ W9.cell? ⟨w.heap.size, 2, none⟩ = some (.int .i64 x.f2) ∧ W9.cell? ⟨w.heap.size, 3, none⟩ = some (.slice A3 n3 c3) ∧ W9.cell? ⟨w.heap.size, 4, none⟩ = some (.slice A4 n4 c4) ∧ W9.cell? ⟨w.heap.size, 5, none⟩ = some (.slice A5 n5 c5) := ⟨(blk_cell (blk_below hbx.out HB_) 0).trans rfl, (blk_cell (blk_below hbx.out HB_) 1).trans rfl, (blk_cell (blk_below hbx.out HB_) 2).trans rfl, (blk_cell (blk_below hbx.out HB_) 3).trans rfl, (blk_cell (blk_below hbx.out HB_) 4).trans rfl, (blk_cell (blk_below hbx.out HB_) 5).trans rfl⟩
                            refine norm_ (a' := ?_) ?_ ?_
                            rotate_left
                            · simp only [putAll, Act.put, List.setIfInBounds_toArray, List.set_cons_zero, List.set_cons_succ]
                              rfl
                            refine one_ (i := 0) (N := some 5) #[true, false, true, true, false, true, false, false, false, false, false] rfl rfl (by kernel_rfl) (by decide) (fun K hK => ?_)
                            refine goes_ Tryd.func27 (by kernel_rfl) rfl #[] (by rfl) rfl rfl (by simp only [List.map_toArray, List.map_nil]) ?_
                            (with_reducible refine (lists_calls W9).mono ?_)
                            rintro e w3 ⟨x1, x2, rfl, hbq⟩
                            refine ⟨_, rfl, ?_⟩
                            have HBn := below_step HB_ hbq
                            refine hK.out _ _ ⟨(blk_cell (blk_below hbx.out HBn) 0).trans rfl, (blk_cell (blk_below hbx.out HBn) 1).trans rfl, (blk_cell (blk_below hbx.out HBn) 2).trans rfl, (blk_cell (blk_below hbx.out HBn) 3).trans rfl, (blk_cell (blk_below hbx.out HBn) 4).trans rfl, (blk_cell (blk_below hbx.out HBn) 5).trans rfl⟩ (fun hHeld => ?_)
                            clear hK K
                            refine norm_ (a' := ?_) ?_ ?_
                            rotate_left
                            · show Act.put _ (some 5) _ = _
                              simp only [Act.put, List.setIfInBounds_toArray, List.set_cons_zero, List.set_cons_succ, i64_w, i32_w]
                              rfl
                            exact norm_ (by first | (simp only [putAll, Act.put, List.setIfInBounds_toArray, List.set_cons_zero, List.set_cons_succ]; done) | (simp only [putAll, Act.put, List.setIfInBounds_toArray, List.set_cons_zero, List.set_cons_succ]; rfl)) (hJ0_2 (x1, x2, a6, v7, v9, v12, v13) _ ⟨HBn, Kd.N_below hN7 hbq⟩)
                        · skip
                          rintro ⟨a1, a2, a6, v7, v9, v12, v13⟩ W9 HB_
                          have hHeld : W9.cell? ⟨w.heap.size, 0, none⟩ = some (.int .i64 x.f0) ∧ W9.cell? ⟨w.heap.size, 1, none⟩ = some (.string x.f1) ∧ W9.cell? ⟨w.heap.size, 2, none⟩ = some (.int .i64 x.f2) ∧ W9.cell? ⟨w.heap.size, 3, none⟩ = some (.slice A3 n3 c3) ∧ W9.cell? ⟨w.heap.size, 4, none⟩ = some (.slice A4 n4 c4) ∧ W9.cell? ⟨w.heap.size, 5, none⟩ = some (.slice A5 n5 c5) := ⟨(blk_cell (blk_below hbx.out HB_) 0).trans rfl, (blk_cell (blk_below hbx.out HB_) 1).trans rfl, (blk_cell (blk_below hbx.out HB_) 2).trans rfl, (blk_cell (blk_below hbx.out HB_) 3).trans rfl, (blk_cell (blk_below hbx.out HB_) 4).trans rfl, (blk_cell (blk_below hbx.out HB_) 5).trans rfl⟩
                          refine norm_ (a' := ?_) ?_ ?_
                          rotate_left
                          · simp only [putAll, Act.put, List.setIfInBounds_toArray, List.set_cons_zero, List.set_cons_succ]
                            rfl
                          refine two_ (i := 1) (j := 2) (Ni := some 6) (Nj := some 7) #[true, true, false, true, false, true, false, false, false, false, false] #[true, false, true, true, false, true, false, false, false, false, false] rfl rfl rfl rfl (by kernel_rfl) (by decide) (by decide) (fun K hK => ?_) (fun K hK => ?_)
                          · skip
                            refine value_ (w1 := ?_) (v := ?_) (by rfl) rfl ?_ ?_
                            rotate_left 2
                            · go_simp
                              constructor
                              · rfl
                              · rfl
                            have hbq := below_alloc (Below.refl W9.heap.size W9) (.cells #[.string ⟨#[76, 105, 115, 116]⟩, .slice a1 1 1, .slice a2 2 2] 56)
                            have HBn := below_step HB_ hbq
                            refine hK.out _ _ ⟨(blk_cell (blk_below hbx.out HBn) 0).trans rfl, (blk_cell (blk_below hbx.out HBn) 1).trans rfl, (blk_cell (blk_below hbx.out HBn) 2).trans rfl, (blk_cell (blk_below hbx.out HBn) 3).trans rfl, (blk_cell (blk_below hbx.out HBn) 4).trans rfl, (blk_cell (blk_below hbx.out HBn) 5).trans rfl⟩ (fun hHeld => ?_)
                            clear hK K
                            refine norm_ (a' := ?_) ?_ ?_
                            rotate_left
                            · show Act.put _ (some 6) _ = _
                              simp only [Act.put, List.setIfInBounds_toArray, List.set_cons_zero, List.set_cons_succ, i64_w, i32_w]
                              rfl
                            exact norm_ (by first | (simp only [putAll, Act.put, List.setIfInBounds_toArray, List.set_cons_zero, List.set_cons_succ]; done) | (simp only [putAll, Act.put, List.setIfInBounds_toArray, List.set_cons_zero, List.set_cons_succ]; rfl)) (hJ0_1 (a1, a2, (some ⟨W9.heap.size, 0, none⟩), v7, v9, v12, v13) _ HBn)
                          · skip
                            refine Kd.N_lit_step k34 (w0 := W0) W0.heap.size 34 (by rfl) rfl (xs := []) (inner := []) (ok := okN) (okp := fun _ => False) ?_ (Reps.none _ _) (fun _ hk => hk.elim) ?_ HB_ HB_.size (by decide) ?_
                            · go_simp
                            · exact hok1.out _ HB_.size
                            intro v3 w3 hn3 hb3 hg3 hat3
                            have hbq : Below W9.heap.size W9 w3 := below_own hg3
                            have HBn := below_step HB_ hbq
                            refine hK.out _ _ ⟨(blk_cell (blk_below hbx.out HBn) 0).trans rfl, (blk_cell (blk_below hbx.out HBn) 1).trans rfl, (blk_cell (blk_below hbx.out HBn) 2).trans rfl, (blk_cell (blk_below hbx.out HBn) 3).trans rfl, (blk_cell (blk_below hbx.out HBn) 4).trans rfl, (blk_cell (blk_below hbx.out HBn) 5).trans rfl⟩ (fun hHeld => ?_)
                            clear hK K
                            refine norm_ (a' := ?_) ?_ ?_
                            rotate_left
                            · show Act.put _ (some 7) _ = _
                              simp only [Act.put, List.setIfInBounds_toArray, List.set_cons_zero, List.set_cons_succ, i64_w, i32_w]
                              rfl
                            exact norm_ (by first | (simp only [putAll, Act.put, List.setIfInBounds_toArray, List.set_cons_zero, List.set_cons_succ]; done) | (simp only [putAll, Act.put, List.setIfInBounds_toArray, List.set_cons_zero, List.set_cons_succ]; rfl)) (hJ0_2 (a1, a2, a6, v3, v9, v12, v13) _ ⟨HBn, hn3⟩)
                      · skip
                        rintro ⟨a1, a2, a6, v7, v9, v12, v13⟩ W9 ⟨HB_, hN7⟩
                        have hHeld : W9.cell? ⟨w.heap.size, 0, none⟩ = some (.int .i64 x.f0) ∧ W9.cell? ⟨w.heap.size, 1, none⟩ = some (.string x.f1) ∧ W9.cell? ⟨w.heap.size, 2, none⟩ = some (.int .i64 x.f2) ∧ W9.cell? ⟨w.heap.size, 3, none⟩ = some (.slice A3 n3 c3) ∧ W9.cell? ⟨w.heap.size, 4, none⟩ = some (.slice A4 n4 c4) ∧ W9.cell? ⟨w.heap.size, 5, none⟩ = some (.slice A5 n5 c5) := ⟨(blk_cell (blk_below hbx.out HB_) 0).trans rfl, (blk_cell (blk_below hbx.out HB_) 1).trans rfl, (blk_cell (blk_below hbx.out HB_) 2).trans rfl, (blk_cell (blk_below hbx.out HB_) 3).trans rfl, (blk_cell (blk_below hbx.out HB_) 4).trans rfl, (blk_cell (blk_below hbx.out HB_) 5).trans rfl⟩
                        refine norm_ (a' := ?_) ?_ ?_
                        rotate_left
                        · simp only [putAll, Act.put, List.setIfInBounds_toArray, List.set_cons_zero, List.set_cons_succ]
                          rfl
                        refine two_ (i := 1) (j := 4) (Ni := some 6) (Nj := some 9) #[true, true, true, true, false, true, false, false, false, false, false] #[true, false, true, true, true, true, false, false, false, false, false] rfl rfl rfl rfl (by kernel_rfl) (by decide) (by decide) (fun K hK => ?_) (fun K hK => ?_)
                        · skip
                          refine value_ (w1 := ?_) (v := ?_) (by rfl) rfl ?_ ?_
                          rotate_left 2
                          · go_simp
                            constructor
                            · rfl
                            · rfl
                          have hbq := below_alloc (Below.refl W9.heap.size W9) (.cells #[.string ⟨#[76, 105, 115, 116]⟩, .slice a1 1 1, .slice a2 2 2] 56)
                          have HBn := below_step HB_ hbq
                          refine hK.out _ _ ⟨(blk_cell (blk_below hbx.out HBn) 0).trans rfl, (blk_cell (blk_below hbx.out HBn) 1).trans rfl, (blk_cell (blk_below hbx.out HBn) 2).trans rfl, (blk_cell (blk_below hbx.out HBn) 3).trans rfl, (blk_cell (blk_below hbx.out HBn) 4).trans rfl, (blk_cell (blk_below hbx.out HBn) 5).trans rfl⟩ (fun hHeld => ?_)
                          clear hK K
                          refine norm_ (a' := ?_) ?_ ?_
                          rotate_left
                          · show Act.put _ (some 6) _ = _
                            simp only [Act.put, List.setIfInBounds_toArray, List.set_cons_zero, List.set_cons_succ, i64_w, i32_w]
                            rfl
                          exact norm_ (by first | (simp only [putAll, Act.put, List.setIfInBounds_toArray, List.set_cons_zero, List.set_cons_succ]; done) | (simp only [putAll, Act.put, List.setIfInBounds_toArray, List.set_cons_zero, List.set_cons_succ]; rfl)) (hJ0_1_2 (a1, a2, (some ⟨W9.heap.size, 0, none⟩), v7, v9, v12, v13) _ ⟨HBn, Kd.N_below hN7 hbq⟩)
                        · skip
                          refine Kd.N_append_rows_step k34 (w0 := W0) W0.heap.size (by rfl) (.tmp 7) (.tmp 8) 24 34 _ 144 rfl Tryd.underlying24 info34 rfl (by decide) (by decide) (v7) [] ds A ds.length c okN (fun k => ok0 k ∧ k < w.heap.size) rfl rfl hN7 (Kd.F_step hF.out (fun k hk _ => ?_)) ?_ (fun k hk => ?_) HB_ HB_.size ?_ ?_
                          · exact (HB_.block k (Nat.lt_of_lt_of_le hk.2 HB0.out.size)).trans (HB0.out.block k hk.2)
                          · intro k hk; exact ⟨hok2.out k hk, fun e => by have := Kd.N_base hN7 k e.symm; have := HB0.out.size; omega⟩
                          · exact hok1.out _ (Nat.le_trans HB_.size hk)
                          · simp only [List.length_nil]; omega
                          intro v3 w3 hn3 hb3 hg3 hat3
                          have HBn := hb3
                          refine hK.out _ _ ⟨(blk_cell (blk_below hbx.out HBn) 0).trans rfl, (blk_cell (blk_below hbx.out HBn) 1).trans rfl, (blk_cell (blk_below hbx.out HBn) 2).trans rfl, (blk_cell (blk_below hbx.out HBn) 3).trans rfl, (blk_cell (blk_below hbx.out HBn) 4).trans rfl, (blk_cell (blk_below hbx.out HBn) 5).trans rfl⟩ (fun hHeld => ?_)
                          clear hK K
                          refine norm_ (a' := ?_) ?_ ?_
                          rotate_left
                          · show Act.put _ (some 9) _ = _
                            simp only [Act.put, List.setIfInBounds_toArray, List.set_cons_zero, List.set_cons_succ, i64_w, i32_w]
                            rfl
                          exact norm_ (by first | (simp only [putAll, Act.put, List.setIfInBounds_toArray, List.set_cons_zero, List.set_cons_succ]; done) | (simp only [putAll, Act.put, List.setIfInBounds_toArray, List.set_cons_zero, List.set_cons_succ]; rfl)) (hJ0_2_4 (a1, a2, a6, v7, v3, v12, v13) _ ⟨HBn, hn3⟩)
                    · skip
                      rintro ⟨a1, a2, a6, v7, v9, v12, v13⟩ W9 HB_
                      have hHeld : W9.cell? ⟨w.heap.size, 0, none⟩ = some (.int .i64 x.f0) ∧ W9.cell? ⟨w.heap.size, 1, none⟩ = some (.string x.f1) ∧ W9.cell? ⟨w.heap.size, 2, none⟩ = some (.int .i64 x.f2) ∧ W9.cell? ⟨w.heap.size, 3, none⟩ = some (.slice A3 n3 c3) ∧ W9.cell? ⟨w.heap.size, 4, none⟩ = some (.slice A4 n4 c4) ∧ W9.cell? ⟨w.heap.size, 5, none⟩ = some (.slice A5 n5 c5) := ⟨(blk_cell (blk_below hbx.out HB_) 0).trans rfl, (blk_cell (blk_below hbx.out HB_) 1).trans rfl, (blk_cell (blk_below hbx.out HB_) 2).trans rfl, (blk_cell (blk_below hbx.out HB_) 3).trans rfl, (blk_cell (blk_below hbx.out HB_) 4).trans rfl, (blk_cell (blk_below hbx.out HB_) 5).trans rfl⟩
                      refine norm_ (a' := ?_) ?_ ?_
                      rotate_left
                      · simp only [putAll, Act.put, List.setIfInBounds_toArray, List.set_cons_zero, List.set_cons_succ]
                        rfl
                      refine one_ (i := 2) (N := some 7) #[true, true, true, true, false, true, false, false, false, false, false] rfl rfl (by kernel_rfl) (by decide) (fun K hK => ?_)
                      refine Kd.N_lit_step k34 (w0 := W0) W0.heap.size 34 (by rfl) rfl (xs := []) (inner := []) (ok := okN) (okp := fun _ => False) ?_ (Reps.none _ _) (fun _ hk => hk.elim) ?_ HB_ HB_.size (by decide) ?_
                      · go_simp
                      · exact hok1.out _ HB_.size
                      intro v3 w3 hn3 hb3 hg3 hat3
                      have hbq : Below W9.heap.size W9 w3 := below_own hg3
                      have HBn := below_step HB_ hbq
                      refine hK.out _ _ ⟨(blk_cell (blk_below hbx.out HBn) 0).trans rfl, (blk_cell (blk_below hbx.out HBn) 1).trans rfl, (blk_cell (blk_below hbx.out HBn) 2).trans rfl, (blk_cell (blk_below hbx.out HBn) 3).trans rfl, (blk_cell (blk_below hbx.out HBn) 4).trans rfl, (blk_cell (blk_below hbx.out HBn) 5).trans rfl⟩ (fun hHeld => ?_)
                      clear hK K
                      refine norm_ (a' := ?_) ?_ ?_
                      rotate_left
                      · show Act.put _ (some 7) _ = _
                        simp only [Act.put, List.setIfInBounds_toArray, List.set_cons_zero, List.set_cons_succ, i64_w, i32_w]
                        rfl
                      exact norm_ (by first | (simp only [putAll, Act.put, List.setIfInBounds_toArray, List.set_cons_zero, List.set_cons_succ]; done) | (simp only [putAll, Act.put, List.setIfInBounds_toArray, List.set_cons_zero, List.set_cons_succ]; rfl)) (hJ0_1_2 (a1, a2, a6, v3, v9, v12, v13) _ ⟨HBn, hn3⟩)
                  · skip
                    rintro ⟨a1, a2, a6, v7, v9, v12, v13⟩ W9 ⟨HB_, hN9⟩
                    have hHeld : W9.cell? ⟨w.heap.size, 0, none⟩ = some (.int .i64 x.f0) ∧ W9.cell? ⟨w.heap.size, 1, none⟩ = some (.string x.f1) ∧ W9.cell? ⟨w.heap.size, 2, none⟩ = some (.int .i64 x.f2) ∧ W9.cell? ⟨w.heap.size, 3, none⟩ = some (.slice A3 n3 c3) ∧ W9.cell? ⟨w.heap.size, 4, none⟩ = some (.slice A4 n4 c4) ∧ W9.cell? ⟨w.heap.size, 5, none⟩ = some (.slice A5 n5 c5) := ⟨(blk_cell (blk_below hbx.out HB_) 0).trans rfl, (blk_cell (blk_below hbx.out HB_) 1).trans rfl, (blk_cell (blk_below hbx.out HB_) 2).trans rfl, (blk_cell (blk_below hbx.out HB_) 3).trans rfl, (blk_cell (blk_below hbx.out HB_) 4).trans rfl, (blk_cell (blk_below hbx.out HB_) 5).trans rfl⟩
                    refine norm_ (a' := ?_) ?_ ?_
                    rotate_left
                    · simp only [putAll, Act.put, List.setIfInBounds_toArray, List.set_cons_zero, List.set_cons_succ]
                      rfl
                    refine two_ (i := 1) (j := 6) (Ni := some 6) (Nj := some 11) #[true, true, true, true, true, true, false, false, false, false, false] #[true, false, true, true, true, true, true, false, false, false, false] rfl rfl rfl rfl (by kernel_rfl) (by decide) (by decide) (fun K hK => ?_) (fun K hK => ?_)
                    · skip
                      refine value_ (w1 := ?_) (v := ?_) (by rfl) rfl ?_ ?_
                      rotate_left 2
                      · go_simp
                        constructor
                        · rfl
                        · rfl
                      have hbq := below_alloc (Below.refl W9.heap.size W9) (.cells #[.string ⟨#[76, 105, 115, 116]⟩, .slice a1 1 1, .slice a2 2 2] 56)
                      have HBn := below_step HB_ hbq
                      refine hK.out _ _ ⟨(blk_cell (blk_below hbx.out HBn) 0).trans rfl, (blk_cell (blk_below hbx.out HBn) 1).trans rfl, (blk_cell (blk_below hbx.out HBn) 2).trans rfl, (blk_cell (blk_below hbx.out HBn) 3).trans rfl, (blk_cell (blk_below hbx.out HBn) 4).trans rfl, (blk_cell (blk_below hbx.out HBn) 5).trans rfl⟩ (fun hHeld => ?_)
                      clear hK K
                      refine norm_ (a' := ?_) ?_ ?_
                      rotate_left
                      · show Act.put _ (some 6) _ = _
                        simp only [Act.put, List.setIfInBounds_toArray, List.set_cons_zero, List.set_cons_succ, i64_w, i32_w]
                        rfl
                      exact norm_ (by first | (simp only [putAll, Act.put, List.setIfInBounds_toArray, List.set_cons_zero, List.set_cons_succ]; done) | (simp only [putAll, Act.put, List.setIfInBounds_toArray, List.set_cons_zero, List.set_cons_succ]; rfl)) (hJ0_1_2_4 (a1, a2, (some ⟨W9.heap.size, 0, none⟩), v7, v9, v12, v13) _ ⟨HBn, Kd.N_below hN9 hbq⟩)
                    · skip
                      refine goes_ Tryd.func11 (by kernel_rfl) rfl #[.string ⟨#[109, 97, 105, 110]⟩, .slice none 0 0, .agg #[.int .i64 x.f0, .string x.f1, .int .i64 x.f2, .slice A3 n3 c3, .slice A4 n4 c4, .slice A5 n5 c5]] (by rfl) rfl rfl (by simp only [List.map_toArray, List.map_cons, List.map_nil]; rfl) ?_
                      (with_reducible refine (d_calls ⟨#[109, 97, 105, 110]⟩ W9).mono ?_)
                      rintro e w3 ⟨rfl, hbq⟩
                      refine ⟨_, rfl, ?_⟩
                      have HBn := below_step HB_ hbq
                      refine hK.out _ _ ⟨(blk_cell (blk_below hbx.out HBn) 0).trans rfl, (blk_cell (blk_below hbx.out HBn) 1).trans rfl, (blk_cell (blk_below hbx.out HBn) 2).trans rfl, (blk_cell (blk_below hbx.out HBn) 3).trans rfl, (blk_cell (blk_below hbx.out HBn) 4).trans rfl, (blk_cell (blk_below hbx.out HBn) 5).trans rfl⟩ (fun hHeld => ?_)
                      clear hK K
                      refine norm_ (a' := ?_) ?_ ?_
                      rotate_left
                      · show Act.put _ (some 11) _ = _
                        simp only [Act.put, List.setIfInBounds_toArray, List.set_cons_zero, List.set_cons_succ, i64_w, i32_w]
                        rfl
                      exact norm_ (by first | (simp only [putAll, Act.put, List.setIfInBounds_toArray, List.set_cons_zero, List.set_cons_succ]; done) | (simp only [putAll, Act.put, List.setIfInBounds_toArray, List.set_cons_zero, List.set_cons_succ]; rfl)) (hJ0_2_4_6 (a1, a2, a6, v7, v9, v12, v13) _ ⟨HBn, Kd.N_below hN9 hbq⟩)
                · skip
                  rintro ⟨a1, a2, a6, v7, v9, v12, v13⟩ W9 ⟨HB_, hN7⟩
                  have hHeld : W9.cell? ⟨w.heap.size, 0, none⟩ = some (.int .i64 x.f0) ∧ W9.cell? ⟨w.heap.size, 1, none⟩ = some (.string x.f1) ∧ W9.cell? ⟨w.heap.size, 2, none⟩ = some (.int .i64 x.f2) ∧ W9.cell? ⟨w.heap.size, 3, none⟩ = some (.slice A3 n3 c3) ∧ W9.cell? ⟨w.heap.size, 4, none⟩ = some (.slice A4 n4 c4) ∧ W9.cell? ⟨w.heap.size, 5, none⟩ = some (.slice A5 n5 c5) := ⟨(blk_cell (blk_below hbx.out HB_) 0).trans rfl, (blk_cell (blk_below hbx.out HB_) 1).trans rfl, (blk_cell (blk_below hbx.out HB_) 2).trans rfl, (blk_cell (blk_below hbx.out HB_) 3).trans rfl, (blk_cell (blk_below hbx.out HB_) 4).trans rfl, (blk_cell (blk_below hbx.out HB_) 5).trans rfl⟩
                  refine norm_ (a' := ?_) ?_ ?_
                  rotate_left
                  · simp only [putAll, Act.put, List.setIfInBounds_toArray, List.set_cons_zero, List.set_cons_succ]
                    rfl
                  refine one_ (i := 4) (N := some 9) #[true, true, true, true, true, true, false, false, false, false, false] rfl rfl (by kernel_rfl) (by decide) (fun K hK => ?_)
                  refine Kd.N_append_rows_step k34 (w0 := W0) W0.heap.size (by rfl) (.tmp 7) (.tmp 8) 24 34 _ 144 rfl Tryd.underlying24 info34 rfl (by decide) (by decide) (v7) [] ds A ds.length c okN (fun k => ok0 k ∧ k < w.heap.size) rfl rfl hN7 (Kd.F_step hF.out (fun k hk _ => ?_)) ?_ (fun k hk => ?_) HB_ HB_.size ?_ ?_
                  · exact (HB_.block k (Nat.lt_of_lt_of_le hk.2 HB0.out.size)).trans (HB0.out.block k hk.2)
                  · intro k hk; exact ⟨hok2.out k hk, fun e => by have := Kd.N_base hN7 k e.symm; have := HB0.out.size; omega⟩
                  · exact hok1.out _ (Nat.le_trans HB_.size hk)
                  · simp only [List.length_nil]; omega
                  intro v3 w3 hn3 hb3 hg3 hat3
                  have HBn := hb3
                  refine hK.out _ _ ⟨(blk_cell (blk_below hbx.out HBn) 0).trans rfl, (blk_cell (blk_below hbx.out HBn) 1).trans rfl, (blk_cell (blk_below hbx.out HBn) 2).trans rfl, (blk_cell (blk_below hbx.out HBn) 3).trans rfl, (blk_cell (blk_below hbx.out HBn) 4).trans rfl, (blk_cell (blk_below hbx.out HBn) 5).trans rfl⟩ (fun hHeld => ?_)
                  clear hK K
                  refine norm_ (a' := ?_) ?_ ?_
                  rotate_left
                  · show Act.put _ (some 9) _ = _
                    simp only [Act.put, List.setIfInBounds_toArray, List.set_cons_zero, List.set_cons_succ, i64_w, i32_w]
                    rfl
                  exact norm_ (by first | (simp only [putAll, Act.put, List.setIfInBounds_toArray, List.set_cons_zero, List.set_cons_succ]; done) | (simp only [putAll, Act.put, List.setIfInBounds_toArray, List.set_cons_zero, List.set_cons_succ]; rfl)) (hJ0_1_2_4 (a1, a2, a6, v7, v3, v12, v13) _ ⟨HBn, hn3⟩)
              · skip
                rintro ⟨a1, a2, a6, v7, v9, v12, v13⟩ W9 ⟨HB_, hN9⟩
                have hHeld : W9.cell? ⟨w.heap.size, 0, none⟩ = some (.int .i64 x.f0) ∧ W9.cell? ⟨w.heap.size, 1, none⟩ = some (.string x.f1) ∧ W9.cell? ⟨w.heap.size, 2, none⟩ = some (.int .i64 x.f2) ∧ W9.cell? ⟨w.heap.size, 3, none⟩ = some (.slice A3 n3 c3) ∧ W9.cell? ⟨w.heap.size, 4, none⟩ = some (.slice A4 n4 c4) ∧ W9.cell? ⟨w.heap.size, 5, none⟩ = some (.slice A5 n5 c5) := ⟨(blk_cell (blk_below hbx.out HB_) 0).trans rfl, (blk_cell (blk_below hbx.out HB_) 1).trans rfl, (blk_cell (blk_below hbx.out HB_) 2).trans rfl, (blk_cell (blk_below hbx.out HB_) 3).trans rfl, (blk_cell (blk_below hbx.out HB_) 4).trans rfl, (blk_cell (blk_below hbx.out HB_) 5).trans rfl⟩
                refine norm_ (a' := ?_) ?_ ?_
                rotate_left
                · simp only [putAll, Act.put, List.setIfInBounds_toArray, List.set_cons_zero, List.set_cons_succ]
                  rfl
                refine two_ (i := 1) (j := 7) (Ni := some 6) (Nj := some 12) #[true, true, true, true, true, true, true, false, false, false, false] #[true, false, true, true, true, true, true, true, false, false, false] rfl rfl rfl rfl (by kernel_rfl) (by decide) (by decide) (fun K hK => ?_) (fun K hK => ?_)
                · skip
                  refine value_ (w1 := ?_) (v := ?_) (by rfl) rfl ?_ ?_
                  rotate_left 2
                  · go_simp
                    constructor
                    · rfl
                    · rfl
                  have hbq := below_alloc (Below.refl W9.heap.size W9) (.cells #[.string ⟨#[76, 105, 115, 116]⟩, .slice a1 1 1, .slice a2 2 2] 56)
                  have HBn := below_step HB_ hbq
                  refine hK.out _ _ ⟨(blk_cell (blk_below hbx.out HBn) 0).trans rfl, (blk_cell (blk_below hbx.out HBn) 1).trans rfl, (blk_cell (blk_below hbx.out HBn) 2).trans rfl, (blk_cell (blk_below hbx.out HBn) 3).trans rfl, (blk_cell (blk_below hbx.out HBn) 4).trans rfl, (blk_cell (blk_below hbx.out HBn) 5).trans rfl⟩ (fun hHeld => ?_)
                  clear hK K
                  refine norm_ (a' := ?_) ?_ ?_
                  rotate_left
                  · show Act.put _ (some 6) _ = _
                    simp only [Act.put, List.setIfInBounds_toArray, List.set_cons_zero, List.set_cons_succ, i64_w, i32_w]
                    rfl
                  exact norm_ (by first | (simp only [putAll, Act.put, List.setIfInBounds_toArray, List.set_cons_zero, List.set_cons_succ]; done) | (simp only [putAll, Act.put, List.setIfInBounds_toArray, List.set_cons_zero, List.set_cons_succ]; rfl)) (hJ0_1_2_4_6 (a1, a2, (some ⟨W9.heap.size, 0, none⟩), v7, v9, v12, v13) _ ⟨HBn, Kd.N_below hN9 hbq⟩)
                · skip
                  refine value_ (w1 := ?_) (v := ?_) (by rfl) rfl ?_ ?_
                  rotate_left 2
                  · go_simp
                    constructor
                    · rfl
                    · rfl
                  have hbq := below_alloc (Below.refl W9.heap.size W9) (.cells #[.string ⟨#[109, 97, 105, 110]⟩, .slice none 0 0, .int .i64 x.f0, .string x.f1, .int .i64 x.f2, .slice A3 n3 c3, .slice A4 n4 c4, .slice A5 n5 c5] 34)
                  have HBn := below_step HB_ hbq
                  refine hK.out _ _ ⟨(blk_cell (blk_below hbx.out HBn) 0).trans rfl, (blk_cell (blk_below hbx.out HBn) 1).trans rfl, (blk_cell (blk_below hbx.out HBn) 2).trans rfl, (blk_cell (blk_below hbx.out HBn) 3).trans rfl, (blk_cell (blk_below hbx.out HBn) 4).trans rfl, (blk_cell (blk_below hbx.out HBn) 5).trans rfl⟩ (fun hHeld => ?_)
                  clear hK K
                  refine norm_ (a' := ?_) ?_ ?_
                  rotate_left
                  · show Act.put _ (some 12) _ = _
                    simp only [Act.put, List.setIfInBounds_toArray, List.set_cons_zero, List.set_cons_succ, i64_w, i32_w]
                    rfl
                  exact norm_ (by first | (simp only [putAll, Act.put, List.setIfInBounds_toArray, List.set_cons_zero, List.set_cons_succ]; done) | (simp only [putAll, Act.put, List.setIfInBounds_toArray, List.set_cons_zero, List.set_cons_succ]; rfl)) (hJ0_2_4_6_7 (a1, a2, a6, v7, v9, (.slice (some ⟨W9.heap.size, 0, none⟩) 1 1), v13) _ ⟨HBn, Kd.N_below hN9 hbq, ⟨W9.heap.size, rfl, blk_new W9 _, HB_.size, fun e => by have := Kd.N_lt hN9 _ e.symm; omega⟩⟩)
            · skip
              rintro ⟨a1, a2, a6, v7, v9, v12, v13⟩ W9 ⟨HB_, hN9⟩
              have hHeld : W9.cell? ⟨w.heap.size, 0, none⟩ = some (.int .i64 x.f0) ∧ W9.cell? ⟨w.heap.size, 1, none⟩ = some (.string x.f1) ∧ W9.cell? ⟨w.heap.size, 2, none⟩ = some (.int .i64 x.f2) ∧ W9.cell? ⟨w.heap.size, 3, none⟩ = some (.slice A3 n3 c3) ∧ W9.cell? ⟨w.heap.size, 4, none⟩ = some (.slice A4 n4 c4) ∧ W9.cell? ⟨w.heap.size, 5, none⟩ = some (.slice A5 n5 c5) := ⟨(blk_cell (blk_below hbx.out HB_) 0).trans rfl, (blk_cell (blk_below hbx.out HB_) 1).trans rfl, (blk_cell (blk_below hbx.out HB_) 2).trans rfl, (blk_cell (blk_below hbx.out HB_) 3).trans rfl, (blk_cell (blk_below hbx.out HB_) 4).trans rfl, (blk_cell (blk_below hbx.out HB_) 5).trans rfl⟩
              refine norm_ (a' := ?_) ?_ ?_
              rotate_left
              · simp only [putAll, Act.put, List.setIfInBounds_toArray, List.set_cons_zero, List.set_cons_succ]
                rfl
              refine one_ (i := 6) (N := some 11) #[true, true, true, true, true, true, true, false, false, false, false] rfl rfl (by kernel_rfl) (by decide) (fun K hK => ?_)
              refine goes_ Tryd.func11 (by kernel_rfl) rfl #[.string ⟨#[109, 97, 105, 110]⟩, .slice none 0 0, .agg #[.int .i64 x.f0, .string x.f1, .int .i64 x.f2, .slice A3 n3 c3, .slice A4 n4 c4, .slice A5 n5 c5]] (by rfl) rfl rfl (by simp only [List.map_toArray, List.map_cons, List.map_nil]; rfl) ?_
              (with_reducible refine (d_calls ⟨#[109, 97, 105, 110]⟩ W9).mono ?_)
              rintro e w3 ⟨rfl, hbq⟩
              refine ⟨_, rfl, ?_⟩
              have HBn := below_step HB_ hbq
              refine hK.out _ _ ⟨(blk_cell (blk_below hbx.out HBn) 0).trans rfl, (blk_cell (blk_below hbx.out HBn) 1).trans rfl, (blk_cell (blk_below hbx.out HBn) 2).trans rfl, (blk_cell (blk_below hbx.out HBn) 3).trans rfl, (blk_cell (blk_below hbx.out HBn) 4).trans rfl, (blk_cell (blk_below hbx.out HBn) 5).trans rfl⟩ (fun hHeld => ?_)
              clear hK K
              refine norm_ (a' := ?_) ?_ ?_
              rotate_left
              · show Act.put _ (some 11) _ = _
                simp only [Act.put, List.setIfInBounds_toArray, List.set_cons_zero, List.set_cons_succ, i64_w, i32_w]
                rfl
              exact norm_ (by first | (simp only [putAll, Act.put, List.setIfInBounds_toArray, List.set_cons_zero, List.set_cons_succ]; done) | (simp only [putAll, Act.put, List.setIfInBounds_toArray, List.set_cons_zero, List.set_cons_succ]; rfl)) (hJ0_1_2_4_6 (a1, a2, a6, v7, v9, v12, v13) _ ⟨HBn, Kd.N_below hN9 hbq⟩)
          · skip
            rintro ⟨a1, a2, a6, v7, v9, v12, v13⟩ W9 ⟨HB_, hN9, h12⟩
            have hHeld : W9.cell? ⟨w.heap.size, 0, none⟩ = some (.int .i64 x.f0) ∧ W9.cell? ⟨w.heap.size, 1, none⟩ = some (.string x.f1) ∧ W9.cell? ⟨w.heap.size, 2, none⟩ = some (.int .i64 x.f2) ∧ W9.cell? ⟨w.heap.size, 3, none⟩ = some (.slice A3 n3 c3) ∧ W9.cell? ⟨w.heap.size, 4, none⟩ = some (.slice A4 n4 c4) ∧ W9.cell? ⟨w.heap.size, 5, none⟩ = some (.slice A5 n5 c5) := ⟨(blk_cell (blk_below hbx.out HB_) 0).trans rfl, (blk_cell (blk_below hbx.out HB_) 1).trans rfl, (blk_cell (blk_below hbx.out HB_) 2).trans rfl, (blk_cell (blk_below hbx.out HB_) 3).trans rfl, (blk_cell (blk_below hbx.out HB_) 4).trans rfl, (blk_cell (blk_below hbx.out HB_) 5).trans rfl⟩
            refine norm_ (a' := ?_) ?_ ?_
            rotate_left
            · simp only [putAll, Act.put, List.setIfInBounds_toArray, List.set_cons_zero, List.set_cons_succ]
              rfl
            refine two_ (i := 1) (j := 8) (Ni := some 6) (Nj := some 13) #[true, true, true, true, true, true, true, true, false, false, false] #[true, false, true, true, true, true, true, true, true, false, false] rfl rfl rfl rfl (by kernel_rfl) (by decide) (by decide) (fun K hK => ?_) (fun K hK => ?_)
            · skip
              refine value_ (w1 := ?_) (v := ?_) (by rfl) rfl ?_ ?_
              rotate_left 2
              · go_simp
                constructor
                · rfl
                · rfl
              have hbq := below_alloc (Below.refl W9.heap.size W9) (.cells #[.string ⟨#[76, 105, 115, 116]⟩, .slice a1 1 1, .slice a2 2 2] 56)
              have HBn := below_step HB_ hbq
              refine hK.out _ _ ⟨(blk_cell (blk_below hbx.out HBn) 0).trans rfl, (blk_cell (blk_below hbx.out HBn) 1).trans rfl, (blk_cell (blk_below hbx.out HBn) 2).trans rfl, (blk_cell (blk_below hbx.out HBn) 3).trans rfl, (blk_cell (blk_below hbx.out HBn) 4).trans rfl, (blk_cell (blk_below hbx.out HBn) 5).trans rfl⟩ (fun hHeld => ?_)
              clear hK K
              refine norm_ (a' := ?_) ?_ ?_
              rotate_left
              · show Act.put _ (some 6) _ = _
                simp only [Act.put, List.setIfInBounds_toArray, List.set_cons_zero, List.set_cons_succ, i64_w, i32_w]
                rfl
              exact norm_ (by first | (simp only [putAll, Act.put, List.setIfInBounds_toArray, List.set_cons_zero, List.set_cons_succ]; done) | (simp only [putAll, Act.put, List.setIfInBounds_toArray, List.set_cons_zero, List.set_cons_succ]; rfl)) (hJ0_1_2_4_6_7 (a1, a2, (some ⟨W9.heap.size, 0, none⟩), v7, v9, v12, v13) _ ⟨HBn, Kd.N_below hN9 hbq, h12.elim fun b h => ⟨b, h.1, blk_below h.2.1 hbq, h.2.2⟩⟩)
            · skip
              obtain ⟨b, rfl, hb12, hge, hne⟩ := h12
              refine Kd.N_append_rows_step k34 (w0 := W0) W0.heap.size (by rfl) (.tmp 9) (.tmp 12) 24 34 _ 144 rfl Tryd.underlying24 info34 rfl (by decide) (by decide) v9 ds [⟨⟨#[109, 97, 105, 110]⟩, [], x⟩] (some ⟨b, 0, none⟩) 1 1 okN (fun k => (ok0 k ∧ k < w.heap.size) ∨ k = b) rfl rfl hN9 ?_ ?_ (fun k hk => ?_) HB_ HB_.size ?_ ?_
              · exact mainF hKx.out (fun k hk => (HB_.block k (Nat.lt_of_lt_of_le hk HB0.out.size)).trans (HB0.out.block k hk)) hb12
              · rintro k (hk | rfl)
                · exact ⟨hok2.out _ hk, fun e => by have := Kd.N_base hN9 _ e.symm; have := HB0.out.size; omega⟩
                · exact ⟨hok1.out _ hge, hne⟩
              · exact hok1.out _ (Nat.le_trans HB_.size hk)
              · omega
              intro v3 w3 hn3 hb3 hg3 hat3
              have HBn := hb3
              refine hK.out _ _ ⟨(blk_cell (blk_below hbx.out HBn) 0).trans rfl, (blk_cell (blk_below hbx.out HBn) 1).trans rfl, (blk_cell (blk_below hbx.out HBn) 2).trans rfl, (blk_cell (blk_below hbx.out HBn) 3).trans rfl, (blk_cell (blk_below hbx.out HBn) 4).trans rfl, (blk_cell (blk_below hbx.out HBn) 5).trans rfl⟩ (fun hHeld => ?_)
              clear hK K
              refine norm_ (a' := ?_) ?_ ?_
              rotate_left
              · show Act.put _ (some 13) _ = _
                simp only [Act.put, List.setIfInBounds_toArray, List.set_cons_zero, List.set_cons_succ, i64_w, i32_w]
                rfl
              exact norm_ (by first | (simp only [putAll, Act.put, List.setIfInBounds_toArray, List.set_cons_zero, List.set_cons_succ]; done) | (simp only [putAll, Act.put, List.setIfInBounds_toArray, List.set_cons_zero, List.set_cons_succ]; rfl)) (hJ0_2_4_6_7_8 (a1, a2, a6, v7, v9, (.slice (some ⟨b, 0, none⟩) 1 1), v3) _ ⟨HBn, hn3⟩)
        · skip
          rintro ⟨a1, a2, a6, v7, v9, v12, v13⟩ W9 ⟨HB_, hN9⟩
          have hHeld : W9.cell? ⟨w.heap.size, 0, none⟩ = some (.int .i64 x.f0) ∧ W9.cell? ⟨w.heap.size, 1, none⟩ = some (.string x.f1) ∧ W9.cell? ⟨w.heap.size, 2, none⟩ = some (.int .i64 x.f2) ∧ W9.cell? ⟨w.heap.size, 3, none⟩ = some (.slice A3 n3 c3) ∧ W9.cell? ⟨w.heap.size, 4, none⟩ = some (.slice A4 n4 c4) ∧ W9.cell? ⟨w.heap.size, 5, none⟩ = some (.slice A5 n5 c5) := ⟨(blk_cell (blk_below hbx.out HB_) 0).trans rfl, (blk_cell (blk_below hbx.out HB_) 1).trans rfl, (blk_cell (blk_below hbx.out HB_) 2).trans rfl, (blk_cell (blk_below hbx.out HB_) 3).trans rfl, (blk_cell (blk_below hbx.out HB_) 4).trans rfl, (blk_cell (blk_below hbx.out HB_) 5).trans rfl⟩
          refine norm_ (a' := ?_) ?_ ?_
          rotate_left
          · simp only [putAll, Act.put, List.setIfInBounds_toArray, List.set_cons_zero, List.set_cons_succ]
            rfl
          refine one_ (i := 7) (N := some 12) #[true, true, true, true, true, true, true, true, false, false, false] rfl rfl (by kernel_rfl) (by decide) (fun K hK => ?_)
          refine value_ (w1 := ?_) (v := ?_) (by rfl) rfl ?_ ?_
          rotate_left 2
          · go_simp
            constructor
            · rfl
            · rfl
          have hbq := below_alloc (Below.refl W9.heap.size W9) (.cells #[.string ⟨#[109, 97, 105, 110]⟩, .slice none 0 0, .int .i64 x.f0, .string x.f1, .int .i64 x.f2, .slice A3 n3 c3, .slice A4 n4 c4, .slice A5 n5 c5] 34)
          have HBn := below_step HB_ hbq
          refine hK.out _ _ ⟨(blk_cell (blk_below hbx.out HBn) 0).trans rfl, (blk_cell (blk_below hbx.out HBn) 1).trans rfl, (blk_cell (blk_below hbx.out HBn) 2).trans rfl, (blk_cell (blk_below hbx.out HBn) 3).trans rfl, (blk_cell (blk_below hbx.out HBn) 4).trans rfl, (blk_cell (blk_below hbx.out HBn) 5).trans rfl⟩ (fun hHeld => ?_)
          clear hK K
          refine norm_ (a' := ?_) ?_ ?_
          rotate_left
          · show Act.put _ (some 12) _ = _
            simp only [Act.put, List.setIfInBounds_toArray, List.set_cons_zero, List.set_cons_succ, i64_w, i32_w]
            rfl
          exact norm_ (by first | (simp only [putAll, Act.put, List.setIfInBounds_toArray, List.set_cons_zero, List.set_cons_succ]; done) | (simp only [putAll, Act.put, List.setIfInBounds_toArray, List.set_cons_zero, List.set_cons_succ]; rfl)) (hJ0_1_2_4_6_7 (a1, a2, a6, v7, v9, (.slice (some ⟨W9.heap.size, 0, none⟩) 1 1), v13) _ ⟨HBn, Kd.N_below hN9 hbq, ⟨W9.heap.size, rfl, blk_new W9 _, HB_.size, fun e => by have := Kd.N_lt hN9 _ e.symm; omega⟩⟩)
      · skip
        rintro ⟨a1, a2, a6, v7, v9, v12, v13⟩ W9 ⟨HB_, hN13⟩
        have hHeld : W9.cell? ⟨w.heap.size, 0, none⟩ = some (.int .i64 x.f0) ∧ W9.cell? ⟨w.heap.size, 1, none⟩ = some (.string x.f1) ∧ W9.cell? ⟨w.heap.size, 2, none⟩ = some (.int .i64 x.f2) ∧ W9.cell? ⟨w.heap.size, 3, none⟩ = some (.slice A3 n3 c3) ∧ W9.cell? ⟨w.heap.size, 4, none⟩ = some (.slice A4 n4 c4) ∧ W9.cell? ⟨w.heap.size, 5, none⟩ = some (.slice A5 n5 c5) := ⟨(blk_cell (blk_below hbx.out HB_) 0).trans rfl, (blk_cell (blk_below hbx.out HB_) 1).trans rfl, (blk_cell (blk_below hbx.out HB_) 2).trans rfl, (blk_cell (blk_below hbx.out HB_) 3).trans rfl, (blk_cell (blk_below hbx.out HB_) 4).trans rfl, (blk_cell (blk_below hbx.out HB_) 5).trans rfl⟩
        refine norm_ (a' := ?_) ?_ ?_
        rotate_left
        · simp only [putAll, Act.put, List.setIfInBounds_toArray, List.set_cons_zero, List.set_cons_succ]
          rfl
        refine one_ (i := 1) (N := some 6) #[true, true, true, true, true, true, true, true, true, false, false] rfl rfl (by kernel_rfl) (by decide) (fun K hK => ?_)
        refine value_ (w1 := ?_) (v := ?_) (by rfl) rfl ?_ ?_
        rotate_left 2
        · go_simp
          constructor
          · rfl
          · rfl
        have hbq := below_alloc (Below.refl W9.heap.size W9) (.cells #[.string ⟨#[76, 105, 115, 116]⟩, .slice a1 1 1, .slice a2 2 2] 56)
        have HBn := below_step HB_ hbq
        refine hK.out _ _ ⟨(blk_cell (blk_below hbx.out HBn) 0).trans rfl, (blk_cell (blk_below hbx.out HBn) 1).trans rfl, (blk_cell (blk_below hbx.out HBn) 2).trans rfl, (blk_cell (blk_below hbx.out HBn) 3).trans rfl, (blk_cell (blk_below hbx.out HBn) 4).trans rfl, (blk_cell (blk_below hbx.out HBn) 5).trans rfl⟩ (fun hHeld => ?_)
        clear hK K
        refine norm_ (a' := ?_) ?_ ?_
        rotate_left
        · show Act.put _ (some 6) _ = _
          simp only [Act.put, List.setIfInBounds_toArray, List.set_cons_zero, List.set_cons_succ, i64_w, i32_w]
          rfl
        exact norm_ (by first | (simp only [putAll, Act.put, List.setIfInBounds_toArray, List.set_cons_zero, List.set_cons_succ]; done) | (simp only [putAll, Act.put, List.setIfInBounds_toArray, List.set_cons_zero, List.set_cons_succ]; rfl)) (hJ0_1_2_4_6_7_8 (a1, a2, (some ⟨W9.heap.size, 0, none⟩), v7, v9, v12, v13) _ ⟨HBn, Kd.N_below hN13 hbq⟩)
    · skip
      rintro ⟨a1, a2, a6, v7, v9, v12, v13⟩ W9 ⟨HB_, hN9, h12⟩
      have hHeld : W9.cell? ⟨w.heap.size, 0, none⟩ = some (.int .i64 x.f0) ∧ W9.cell? ⟨w.heap.size, 1, none⟩ = some (.string x.f1) ∧ W9.cell? ⟨w.heap.size, 2, none⟩ = some (.int .i64 x.f2) ∧ W9.cell? ⟨w.heap.size, 3, none⟩ = some (.slice A3 n3 c3) ∧ W9.cell? ⟨w.heap.size, 4, none⟩ = some (.slice A4 n4 c4) ∧ W9.cell? ⟨w.heap.size, 5, none⟩ = some (.slice A5 n5 c5) := ⟨(blk_cell (blk_below hbx.out HB_) 0).trans rfl, (blk_cell (blk_below hbx.out HB_) 1).trans rfl, (blk_cell (blk_below hbx.out HB_) 2).trans rfl, (blk_cell (blk_below hbx.out HB_) 3).trans rfl, (blk_cell (blk_below hbx.out HB_) 4).trans rfl, (blk_cell (blk_below hbx.out HB_) 5).trans rfl⟩
      refine norm_ (a' := ?_) ?_ ?_
      rotate_left
      · simp only [putAll, Act.put, List.setIfInBounds_toArray, List.set_cons_zero, List.set_cons_succ]
        rfl
      refine one_ (i := 8) (N := some 13) #[true, true, true, true, true, true, true, true, true, false, false] rfl rfl (by kernel_rfl) (by decide) (fun K hK => ?_)
      obtain ⟨b, rfl, hb12, hge, hne⟩ := h12
      refine Kd.N_append_rows_step k34 (w0 := W0) W0.heap.size (by rfl) (.tmp 9) (.tmp 12) 24 34 _ 144 rfl Tryd.underlying24 info34 rfl (by decide) (by decide) v9 ds [⟨⟨#[109, 97, 105, 110]⟩, [], x⟩] (some ⟨b, 0, none⟩) 1 1 okN (fun k => (ok0 k ∧ k < w.heap.size) ∨ k = b) rfl rfl hN9 ?_ ?_ (fun k hk => ?_) HB_ HB_.size ?_ ?_
      · exact mainF hKx.out (fun k hk => (HB_.block k (Nat.lt_of_lt_of_le hk HB0.out.size)).trans (HB0.out.block k hk)) hb12
      · rintro k (hk | rfl)
        · exact ⟨hok2.out _ hk, fun e => by have := Kd.N_base hN9 _ e.symm; have := HB0.out.size; omega⟩
        · exact ⟨hok1.out _ hge, hne⟩
      · exact hok1.out _ (Nat.le_trans HB_.size hk)
      · omega
      intro v3 w3 hn3 hb3 hg3 hat3
      have HBn := hb3
      refine hK.out _ _ ⟨(blk_cell (blk_below hbx.out HBn) 0).trans rfl, (blk_cell (blk_below hbx.out HBn) 1).trans rfl, (blk_cell (blk_below hbx.out HBn) 2).trans rfl, (blk_cell (blk_below hbx.out HBn) 3).trans rfl, (blk_cell (blk_below hbx.out HBn) 4).trans rfl, (blk_cell (blk_below hbx.out HBn) 5).trans rfl⟩ (fun hHeld => ?_)
      clear hK K
      refine norm_ (a' := ?_) ?_ ?_
      rotate_left
      · show Act.put _ (some 13) _ = _
        simp only [Act.put, List.setIfInBounds_toArray, List.set_cons_zero, List.set_cons_succ, i64_w, i32_w]
        rfl
      exact norm_ (by first | (simp only [putAll, Act.put, List.setIfInBounds_toArray, List.set_cons_zero, List.set_cons_succ]; done) | (simp only [putAll, Act.put, List.setIfInBounds_toArray, List.set_cons_zero, List.set_cons_succ]; rfl)) (hJ0_1_2_4_6_7_8 (a1, a2, a6, v7, v9, (.slice (some ⟨b, 0, none⟩) 1 1), v3) _ ⟨HBn, hn3⟩)
  rintro ⟨a1, a2, a6, v7, v9, v12, v13⟩ W9 ⟨HB_, hN13⟩
  obtain ⟨A13, c13, hv13⟩ := Kd.N_slice hN13
  have hv13 : v13 = .slice A13 _ c13 := hv13
  subst hv13
  have HN := Aside0.mk hN13
  clear hN13
  have hr0 := (blk_cell (blk_below hrx.out HB_) 0).trans rfl
  have hr1 := (blk_cell (blk_below hrx.out HB_) 1).trans rfl
  have hq0 := blk_frozen (blk_below hrx.out HB_) 0
  have hq1 := blk_frozen (blk_below hrx.out HB_) 1
  have hHeld : W9.cell? ⟨w.heap.size, 0, none⟩ = some (.int .i64 x.f0) ∧ W9.cell? ⟨w.heap.size, 1, none⟩ = some (.string x.f1) ∧ W9.cell? ⟨w.heap.size, 2, none⟩ = some (.int .i64 x.f2) ∧ W9.cell? ⟨w.heap.size, 3, none⟩ = some (.slice A3 n3 c3) ∧ W9.cell? ⟨w.heap.size, 4, none⟩ = some (.slice A4 n4 c4) ∧ W9.cell? ⟨w.heap.size, 5, none⟩ = some (.slice A5 n5 c5) := ⟨(blk_cell (blk_below hbx.out HB_) 0).trans rfl, (blk_cell (blk_below hbx.out HB_) 1).trans rfl, (blk_cell (blk_below hbx.out HB_) 2).trans rfl, (blk_cell (blk_below hbx.out HB_) 3).trans rfl, (blk_cell (blk_below hbx.out HB_) 4).trans rfl, (blk_cell (blk_below hbx.out HB_) 5).trans rfl⟩
  refine norm_ (a' := ?_) ?_ ?_
  rotate_left
  · simp only [putAll, Act.put, List.setIfInBounds_toArray, List.set_cons_zero, List.set_cons_succ]
    rfl
  refine pure_ (i := 9) (N := some 14) (v := ?_) (a' := ?_) #[true, true, true, true, true, true, true, true, true, true, false] rfl rfl (by kernel_rfl) (fun _ _ _ h => h) (Or.inl ⟨by rfl, ?_⟩) ?_ ?_
  rotate_left
  · intro w'
    go_simp
    with_reducible rfl
  rotate_left
  · simp only [Act.put, List.setIfInBounds_toArray, List.set_cons_zero, List.set_cons_succ, i64_w, i32_w]
    rfl
  refine last_ (i := 10) (N := none) #[true, true, true, true, true, true, true, true, true, true, true] rfl rfl (by kernel_rfl) (by decide) (fun K hK => ?_)
  refine skip_ (w1 := ?_) (by rfl) rfl ?_ ?_
  rotate_left
  · go_simp
    rfl
  refine hK.out _ _ ?_
  clear hK K
  refine done_ (by kernel_rfl) ?_
  have HN : Aside0 (Kd.N k34 34 W9 W0.heap.size okN (.slice A13 (ds.length + 1) c13) (ds ++ [⟨⟨#[109, 97, 105, 110]⟩, [], x⟩])) := ⟨by have := HN.out; rw [List.length_append, List.length_singleton] at this; exact this⟩
  clear hHeld
  go_wp2
  refine bodyPost_ret (v := .agg #[.slice a6 1 1, .slice A13 (ds.length + 1) c13]) (by simp [results, Tryd.results12, go_sem, *]) rfl ⟨a6, A13, ⟨c13, rfl⟩, ?_, ?_⟩
  · have h1 := Kd.N_far (Kd.N_far HN.out (p := ⟨w.heap.size + 1, 0, none⟩) hok3.out (.slice a6 1 1)) (p := ⟨w.heap.size + 1, 1, none⟩) hok3.out (.slice A13 (ds.length + 1) c13)
    exact Kd.F_mono (Kd.N_F h1) hok4.out
  · have h1 := HB0.out.trans (HB_.mono HB0.out.size)
    exact (h1.setCell (p := ⟨w.heap.size + 1, 0, none⟩) (Nat.le_succ _) _).setCell (p := ⟨w.heap.size + 1, 1, none⟩) (Nat.le_succ _) _
theorem main_calls (w : World) (x : S29) {A3 A4 A5 : Option Addr} {n3 c3 n4 c4 n5 c5 : Nat} (hKx : k29.K w x [.int .i64 x.f0, .string x.f1, .int .i64 x.f2, .slice A3 n3 c3, .slice A4 n4 c4, .slice A5 n5 c5]) (ds : List S34) (hlen : ds.length ≤ 1000) {A : Option Addr} {c : Nat} (hC : Kd.C k34 w A ds.length ds) :
    Calls Tryd.prog 12 #[.agg #[.int .i64 x.f0, .string x.f1, .int .i64 x.f2, .slice A3 n3 c3, .slice A4 n4 c4, .slice A5 n5 c5], .slice A ds.length c] w fun e w' => ∃ A1 A2 c2, e = .returned (.agg #[.slice A1 1 1, .slice A2 (ds.length + 1) c2]) ∧ Kd.C k34 w' A2 (ds.length + 1) (ds ++ [⟨⟨#[109, 97, 105, 110]⟩, [], x⟩]) ∧ Below w.heap.size w w' := by
  refine (mainF_calls w (ok0 := fun k => k < w.heap.size) x (fun W' h => heapE.K (fun k hk => h k hk hk) hKx) ds hlen (Kd.C_F heapD hC)).mono ?_
  rintro e w' ⟨A1, A2, c2, he, hF, hb⟩
  exact ⟨A1, A2, c2, he, Kd.F_now hF, hb⟩
end Go.Proofs.YtlgpoigbadajnaaDoor.DepA
