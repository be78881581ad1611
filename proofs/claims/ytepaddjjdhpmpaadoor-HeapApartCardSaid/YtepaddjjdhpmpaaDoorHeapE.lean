/- (*Heap).Link. No condition beyond those that each states. -/
import Derived.Test.YtepaddjjdhpmpaaDoorHeapD
namespace Go.Proofs.YtepaddjjdhpmpaaDoor.HeapA
open Go.RowKit Go.Proofs.YtepaddjjdhpmpaaDoorW.PrintWords Go.Proofs.YtepaddjjdhpmpaaDoorW.PrintLast Go.Proofs.YtepaddjjdhpmpaaDoorW.PrintMore Go.Proofs.YtepaddjjdhpmpaaDoor.HeapK Go.Proofs.YtepaddjjdhpmpaaDoor.PHeapP
set_option linter.unusedVariables false
set_option linter.unusedSimpArgs false
section
variable {W W1 : World} {base b mb n : Nat} {half used : Int} {f : NM}
set_option maxHeartbeats 8000000 in
set_option maxRecDepth 100000 in
theorem link_same (h : HW W base b mb half used n f) {k k2 : Nat} {p p2 q : Int} (he : EndsN f k p q) (he2 : EndsN f k2 p2 q) :
    Calls Tryd.prog 18 #[.pointer (some ⟨b, 0, none⟩), .int .i64 p, .int .i64 p2] W fun e W' => e = .returned (.bool false) ∧ Below W.heap.size W W' := by
  obtain ⟨x, hx⟩ := he.is
  obtain ⟨x2, hx2⟩ := he2.is
  have C1 := is_calls h (h.wl p x hx).1
  have C2 := fun W' (hb : Below W.heap.size W W') => is_calls (h.below hb) (h.wl p2 x2 hx2).1
  have E := fun W' (hb : Below W.heap.size W W') (k : Nat) (p q : Int) (he : EndsN f k p q) => end_calls (h.below hb) he
  rw [hx] at C1
  rw [hx2] at C2
  have he := Aside0.mk he
  have he2 := Aside0.mk he2
  clear h hx hx2
  go_enter Tryd.func18, Tryd.ntmps18
  go_wp2_with (first | (go_at_call 26; (with_reducible refine C1.mono ?_); rintro e w1 ⟨rfl, hb1⟩; have HB1 := Aside0.mk hb1; clear hb1 C1) | (go_at_call 26; (with_reducible refine (C2 _ HB1.out).mono ?_); rintro e w2 ⟨rfl, hb2⟩; have HB2 := Aside0.mk (below_step HB1.out hb2); clear hb2) | (go_at_call 27; (with_reducible refine (E _ HB2.out _ _ _ he.out).mono ?_); rintro e w3 ⟨rfl, rfl⟩) | (go_at_call 27; (with_reducible refine (E _ HB2.out _ _ _ he2.out).mono ?_); rintro e w3 ⟨rfl, rfl⟩))
  go_ret
  exact ⟨rfl, HB2.out⟩
set_option maxHeartbeats 8000000 in
set_option maxRecDepth 100000 in
theorem link_yes (h : HW W base b mb half used n f) {k k2 : Nat} {p p2 q q2 : Int} (he : EndsN f k p q) (he2 : EndsN f k2 p2 q2) (hne : q ≠ q2) {nd : Nd} {v : Value} (hq : f q = some (nd, v)) (hn : n < maxLen) :
    Calls Tryd.prog 18 #[.pointer (some ⟨b, 0, none⟩), .int .i64 p, .int .i64 p2] W fun e W' => e = .returned (.bool true) ∧ HW W' base b mb half used (n + 1) (updM f q ({ nd with link := q2 }, v)) ∧ Mod W W' (fun j => j = mb) := by
  obtain ⟨x, hx⟩ := he.is
  obtain ⟨x2, hx2⟩ := he2.is
  obtain ⟨y2, hy2, _⟩ := he2.last
  have C1 := is_calls h (h.wl p x hx).1
  have C2 := fun W' (hb : Below W.heap.size W W') => is_calls (h.below hb) (h.wl p2 x2 hx2).1
  have E := fun W' (hb : Below W.heap.size W W') (k : Nat) (p q : Int) (he : EndsN f k p q) => end_calls (h.below hb) he
  rw [hx] at C1
  rw [hx2] at C2
  obtain ⟨A, c, hv⟩ := Kd.R_slice (h.rows q _ hq)
  have hwq := Aside0.mk (h.wl q _ hq).1
  have hwq2 := Aside0.mk (h.wl q2 _ hy2).1
  have h9 := Aside0.mk h
  have he := Aside0.mk he
  have he2 := Aside0.mk he2
  have hq9 := Aside0.mk hq
  have hn := Aside0.mk hn
  have hv9 := Aside0.mk (show v = .slice A nd.fs.length c from hv)
  have hqq : (q == q2) = false := by simpa using hne
  clear h hx hx2 hq hv hy2 hne
  go_enter Tryd.func18, Tryd.ntmps18
  go_wp2_with (first | (go_at_call 26; (with_reducible refine C1.mono ?_); rintro e w1 ⟨rfl, hb1⟩; have HB1 := Aside0.mk hb1; clear hb1 C1) | (go_at_call 26; (with_reducible refine (C2 _ HB1.out).mono ?_); rintro e w2 ⟨rfl, hb2⟩; have HB2 := Aside0.mk (below_step HB1.out hb2); have H2 := h9.out.below HB2.out; have hc2 := H2.cells.2.2.1; have hlk := look9 H2 hq9.out hv9.out; clear hb2 H2) | (go_at_call 27; (with_reducible refine (E _ HB2.out _ _ _ he.out).mono ?_); rintro e w3 ⟨rfl, rfl⟩) | (go_at_call 27; (with_reducible refine (E _ HB2.out _ _ _ he2.out).mono ?_); rintro e w3 ⟨rfl, rfl⟩))
  generalize w2 = W9 at *
  have H8 : Aside0 (HW (W9.alloc (.cells #[.int .i64 nd.tag, .slice A nd.fs.length c, .int .i64 q2] 54)).drew base b mb half used n f) := ⟨h9.out.below (below_drew1 (below_alloc HB2.out _))⟩
  have HB8 : Aside0 (Below W.heap.size W (W9.alloc (.cells #[.int .i64 nd.tag, .slice A nd.fs.length c, .int .i64 q2] 54)).drew) := ⟨below_drew1 (below_alloc HB2.out _)⟩
  have hbk := blk_new W9 (.cells #[.int .i64 nd.tag, .slice A nd.fs.length c, .int .i64 q2] 54 (0, 0))
  have D0 : Aside0 ((W9.alloc (.cells #[.int .i64 nd.tag, .slice A nd.fs.length c, .int .i64 q2] 54)).drew.cell? ⟨b, 2, none⟩ = some (.map (some mb))) := ⟨H8.out.cells.2.2.1⟩
  have D1 : Aside0 ((W9.alloc (.cells #[.int .i64 nd.tag, .slice A nd.fs.length c, .int .i64 q2] 54)).drew.cell? ⟨W9.heap.size, 0, none⟩ = some (.int .i64 nd.tag)) := ⟨(blk_cell hbk 0).trans rfl⟩
  have D2 : Aside0 ((W9.alloc (.cells #[.int .i64 nd.tag, .slice A nd.fs.length c, .int .i64 q2] 54)).drew.cell? ⟨W9.heap.size, 1, none⟩ = some (.slice A nd.fs.length c)) := ⟨(blk_cell hbk 1).trans rfl⟩
  have D3 : Aside0 ((W9.alloc (.cells #[.int .i64 nd.tag, .slice A nd.fs.length c, .int .i64 q2] 54)).drew.cell? ⟨W9.heap.size, 2, none⟩ = some (.int .i64 q2)) := ⟨(blk_cell hbk 2).trans rfl⟩
  clear hbk hc2 hlk
  refine start_ (n := 7) (S := fun w' => w'.cell? ⟨b, 2, none⟩ = some (.map (some mb)) ∧ w'.cell? ⟨W9.heap.size, 0, none⟩ = some (.int .i64 nd.tag) ∧ w'.cell? ⟨W9.heap.size, 1, none⟩ = some (.slice A nd.fs.length c) ∧ w'.cell? ⟨W9.heap.size, 2, none⟩ = some (.int .i64 q2)) (ds := [6]) #[false, false, false, false, false, false, false] (by kernel_rfl) rfl rfl ⟨D0.out, D1.out, D2.out, D3.out⟩ (fun hHeld => ?_)
  generalize (W9.alloc (.cells #[.int .i64 nd.tag, .slice A nd.fs.length c, .int .i64 q2] 54)).drew = W8 at *
  refine pure_ (i := 0) (N := some 37) (v := ?_) (a' := ?_) #[true, false, false, false, false, false, false] rfl rfl (by kernel_rfl) (fun _ _ _ h => h) (Or.inl ⟨by rfl, ?_⟩) ?_ ?_
  rotate_left
  · intro w'
    go_simp
    with_reducible rfl
  rotate_left
  · simp only [Act.put, List.setIfInBounds_toArray, List.set_cons_zero, List.set_cons_succ, i64_w, i32_w]
    rfl
  refine pure_ (i := 1) (N := some 38) (v := ?_) (a' := ?_) #[true, true, false, false, false, false, false] rfl rfl (by kernel_rfl) (fun _ _ _ h => h) (Or.inl ⟨by rfl, ?_⟩) ?_ ?_
  rotate_left
  · intro w'
    go_simp
    with_reducible rfl
  rotate_left
  · simp only [Act.put, List.setIfInBounds_toArray, List.set_cons_zero, List.set_cons_succ, i64_w, i32_w]
    rfl
  refine pure_ (i := 2) (N := some 39) (v := ?_) (a' := ?_) #[true, true, true, false, false, false, false] rfl rfl (by kernel_rfl) (fun _ _ _ h => h) (Or.inl ⟨by rfl, ?_⟩) ?_ ?_
  rotate_left
  · intro w'
    go_simp
    with_reducible rfl
  rotate_left
  · simp only [Act.put, List.setIfInBounds_toArray, List.set_cons_zero, List.set_cons_succ, i64_w, i32_w]
    rfl
  refine pure_ (i := 4) (N := some 41) (v := ?_) (a' := ?_) #[true, true, true, false, true, false, false] rfl rfl (by kernel_rfl) (fun _ _ _ h => h) (Or.inl ⟨by rfl, ?_⟩) ?_ ?_
  rotate_left
  · intro w'
    go_simp
    with_reducible rfl
  rotate_left
  · simp only [Act.put, List.setIfInBounds_toArray, List.set_cons_zero, List.set_cons_succ, i64_w, i32_w]
    rfl
  refine take_ (i := 3) (N := some 40) (v := ?_) (a' := ?_) #[true, true, true, true, true, false, false] rfl rfl (by kernel_rfl) (fun _ _ _ h => h) (Or.inl ⟨by rfl, ?_⟩) hHeld ?_ ?_
  rotate_left
  · rintro w' ⟨s0, s1, s2, s3⟩
    go_simp
    with_reducible rfl
  rotate_left
  · simp only [Act.put, List.setIfInBounds_toArray, List.set_cons_zero, List.set_cons_succ, i64_w, i32_w]
    rfl
  refine take_ (i := 5) (N := some 42) (v := ?_) (a' := ?_) #[true, true, true, true, true, true, false] rfl rfl (by kernel_rfl) (fun _ _ _ h => h) (Or.inl ⟨by rfl, ?_⟩) hHeld ?_ ?_
  rotate_left
  · rintro w' ⟨s0, s1, s2, s3⟩
    go_simp
    with_reducible rfl
  rotate_left
  · simp only [Act.put, List.setIfInBounds_toArray, List.set_cons_zero, List.set_cons_succ, i64_w, i32_w]
    rfl
  refine last_ (i := 6) (N := none) #[true, true, true, true, true, true, true] rfl rfl (by kernel_rfl) (by decide) (fun K hK => ?_)
  obtain ⟨W7, F7, hrun, hM7, hF1, hF2, hg7⟩ := H8.out.map.store (t := 46) keyed2 Tryd.underlying46 hn.out (key2 hwq.out) (key_is q) (nodeVal ({ nd with link := q2 }, .slice A nd.fs.length c))
  simp only [nodeVal] at hrun
  refine skip_ (w1 := W7) (by rfl) rfl ?_ ?_
  · go_simp
  refine hK.out _ _ ?_
  clear hK K
  refine done_ (by kernel_rfl) ?_
  have hr := H8.out.rows q _ hq9.out
  simp only [hv9.out] at hr
  have H7 := Aside0.mk (H8.out.add hM7 hF1 hF2 hg7 (R33_ok (ok' := fun _ => True) hr (fun _ _ => trivial)) (fun j hj => hr.1 j hj) hwq.out hwq2.out)
  have HM := Aside0.mk ((Mod.of_below HB8.out _).trans (Mod.of_grown hg7) (fun i _ hi => hi))
  clear hr hM7 hF1 hF2 hg7 hrun
  go_wp2
  go_ret
  exact ⟨rfl, by rw [hv9.out]; exact H7.out, HM.out⟩
end
end Go.Proofs.YtepaddjjdhpmpaaDoor.HeapA
