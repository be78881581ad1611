/- (*Heap).Node, Set. No condition beyond those that each states. -/
import Derived.Test.YtepaddjjdhpmpaaDoorHeapC
namespace Go.Proofs.YtepaddjjdhpmpaaDoor.HeapA
open Go.RowKit Go.Proofs.YtepaddjjdhpmpaaDoorW.PrintWords Go.Proofs.YtepaddjjdhpmpaaDoorW.PrintLast Go.Proofs.YtepaddjjdhpmpaaDoorW.PrintMore Go.Proofs.YtepaddjjdhpmpaaDoor.HeapK Go.Proofs.YtepaddjjdhpmpaaDoor.PHeapP
set_option linter.unusedVariables false
set_option linter.unusedSimpArgs false
section
variable {W W1 : World} {base b mb n : Nat} {half used : Int} {f : NM}
theorem look9 (h : HW W base b mb half used n f) {q : Int} {nd : Nd} {v : Value} {A : Option Addr} {c : Nat} (hq : f q = some (nd, v)) (hv : v = .slice A nd.fs.length c) :
    (Instr.lookup 46 (.map (some mb)) (.int .i64 q) false).run Tryd.prog W = .ok (.agg #[.int .i64 nd.tag, .slice A nd.fs.length c, .int .i64 nd.link]) W := by
  have := h.look (h.wl q _ hq).1 false
  rw [hq] at this
  subst hv
  exact this
set_option maxHeartbeats 8000000 in
set_option maxRecDepth 100000 in
theorem node_yes (h : HW W base b mb half used n f) {k : Nat} {p q : Int} (he : EndsN f k p q) {nd : Nd} {v : Value} (hq : f q = some (nd, v)) (hl : nd.fs.length * 16 ≤ 140737488355328) :
    Calls Tryd.prog 16 #[.pointer (some ⟨b, 0, none⟩), .int .i64 p] W fun e W' => ∃ u, e = .returned (.tuple #[.int .i64 nd.tag, u, .bool true]) ∧ Kd.R k33 33 W' W.heap.size (fun _ => True) u nd.fs ∧ Below W.heap.size W W' := by
  obtain ⟨x, hx⟩ := he.is
  have hwp := (h.wl p x hx).1
  have CI := is_calls h hwp
  rw [hx] at CI
  obtain ⟨A, c, hv⟩ := Kd.R_slice (h.rows q _ hq)
  have h9 := Aside0.mk h
  have he := Aside0.mk he
  have hq9 := Aside0.mk hq
  have hv9 := Aside0.mk (show v = .slice A nd.fs.length c from hv)
  have hl := Aside0.mk hl
  clear h hx hq hv
  go_enter Tryd.func16, Tryd.ntmps16
  go_wp2_with (go_at_call 26; refine CI.mono ?_; rintro e w1 ⟨rfl, hb1⟩)
  have HB9 : Aside0 (Below W.heap.size W w1.drew) := ⟨below_drew1 hb1⟩
  have H9 : Aside0 (HW w1.drew base b mb half used n f) := ⟨h9.out.below HB9.out⟩
  have H9a : Aside0 (HW (w1.drew.alloc (.cells #[.int .i64 0, .slice none 0 0, .int .i64 0] 54)) base b mb half used n f) := ⟨H9.out.below (below_alloc (Below.refl _ _) _)⟩
  clear hb1
  refine start_ (n := 10) (S := fun w' => w'.cell? ⟨b, 2, none⟩ = some (.map (some mb)) ∧ (Instr.lookup 46 (.map (some mb)) (.int .i64 q) false).run Tryd.prog w' = .ok (.agg #[.int .i64 nd.tag, .slice A nd.fs.length c, .int .i64 nd.link]) w') (ds := [9]) #[false, false, false, false, false, false, false, false, false, false] (by kernel_rfl) rfl rfl ⟨H9.out.cells.2.2.1, look9 H9.out hq9.out hv9.out⟩ (fun hHeld => ?_)
  generalize w1.drew = W9 at *
  refine pure_ (i := 0) (N := some 12) (v := ?_) (a' := ?_) #[true, false, false, false, false, false, false, false, false, false] rfl rfl (by kernel_rfl) (fun _ _ _ h => h) (Or.inl ⟨by rfl, ?_⟩) ?_ ?_
  rotate_left
  · intro w'
    go_simp
    with_reducible rfl
  rotate_left
  · simp only [Act.put, List.setIfInBounds_toArray, List.set_cons_zero, List.set_cons_succ, i64_w, i32_w]
    rfl
  refine pure_ (i := 1) (N := some 13) (v := ?_) (a' := ?_) #[true, true, false, false, false, false, false, false, false, false] rfl rfl (by kernel_rfl) (fun _ _ _ h => h) (Or.inl ⟨by rfl, ?_⟩) ?_ ?_
  rotate_left
  · intro w'
    go_simp
    with_reducible rfl
  rotate_left
  · simp only [Act.put, List.setIfInBounds_toArray, List.set_cons_zero, List.set_cons_succ, i64_w, i32_w]
    rfl
  refine pure_ (i := 2) (N := some 14) (v := ?_) (a' := ?_) #[true, true, true, false, false, false, false, false, false, false] rfl rfl (by kernel_rfl) (fun _ _ _ h => h) (Or.inl ⟨by rfl, ?_⟩) ?_ ?_
  rotate_left
  · intro w'
    go_simp
    with_reducible rfl
  rotate_left
  · simp only [Act.put, List.setIfInBounds_toArray, List.set_cons_zero, List.set_cons_succ, i64_w, i32_w]
    rfl
  refine pure_ (i := 4) (N := some 16) (v := ?_) (a' := ?_) #[true, true, true, false, true, false, false, false, false, false] rfl rfl (by kernel_rfl) (fun _ _ _ h => h) (Or.inl ⟨by rfl, ?_⟩) ?_ ?_
  rotate_left
  · intro w'
    go_simp
    with_reducible rfl
  rotate_left
  · simp only [Act.put, List.setIfInBounds_toArray, List.set_cons_zero, List.set_cons_succ, i64_w, i32_w]
    rfl
  refine pure_ (i := 5) (N := some 17) (v := ?_) (a' := ?_) #[true, true, true, false, true, true, false, false, false, false] rfl rfl (by kernel_rfl) (fun _ _ _ h => h) (Or.inl ⟨by rfl, ?_⟩) ?_ ?_
  rotate_left
  · intro w'
    go_simp
    with_reducible rfl
  rotate_left
  · simp only [Act.put, List.setIfInBounds_toArray, List.set_cons_zero, List.set_cons_succ, i64_w, i32_w]
    rfl
  refine take_ (i := 3) (N := some 15) (v := ?_) (a' := ?_) #[true, true, true, true, true, true, false, false, false, false] rfl rfl (by kernel_rfl) (fun _ _ _ h => h) (Or.inl ⟨by rfl, ?_⟩) hHeld ?_ ?_
  rotate_left
  · rintro w' ⟨s0, s1⟩
    go_simp
    with_reducible rfl
  rotate_left
  · simp only [Act.put, List.setIfInBounds_toArray, List.set_cons_zero, List.set_cons_succ, i64_w, i32_w]
    rfl
  refine join_ (σ := Unit) 1 #[true, true, true, true, true, true, true, true, true, false] (fun _ => [(18, .int .i64 q), (7, .pointer (some ⟨W9.heap.size, 0, none⟩)), (19, .agg #[.int .i64 nd.tag, .slice A nd.fs.length c, .int .i64 nd.link])]) (fun _ w' => w' = (W9.alloc (.cells #[.int .i64 0, .slice none 0 0, .int .i64 0] 54))) ?_ ?_
  rotate_left
  · intro hCont
    refine two_ (i := 6) (j := 8) (Ni := some 18) (Nj := some 7) #[true, true, true, true, true, true, true, false, false, false] #[true, true, true, true, true, true, false, false, true, false] rfl rfl rfl rfl (by kernel_rfl) (by decide) (by decide) (fun K hK => ?_) (fun K hK => ?_)
    · skip
      refine goes_ Tryd.func27 (by kernel_rfl) rfl #[.pointer (some ⟨b, 0, none⟩), .int .i64 p] (by rfl) rfl rfl (by simp only [List.map_toArray, List.map_cons, List.map_nil]; rfl) ?_
      (with_reducible refine (end_calls H9.out he.out).mono ?_)
      rintro e w3 ⟨rfl, rfl⟩
      refine ⟨_, rfl, ?_⟩
      refine hK.out _ _ ⟨hHeld.1, hHeld.2⟩ (fun hHeld => ?_)
      clear hK K
      refine norm_ (a' := ?_) ?_ ?_
      rotate_left
      · show Act.put _ (some 18) _ = _
        simp only [Act.put, List.setIfInBounds_toArray, List.set_cons_zero, List.set_cons_succ, i64_w, i32_w]
        rfl
      refine take_ (i := 7) (N := some 19) (v := ?_) (a' := ?_) #[true, true, true, true, true, true, true, true, false, false] rfl rfl (by kernel_rfl) (fun _ _ _ h => h) (Or.inl ⟨by rfl, ?_⟩) hHeld ?_ ?_
      rotate_left
      · rintro w' ⟨s0, s1⟩
        go_simp
        with_reducible rfl
      rotate_left
      · simp only [Act.put, List.setIfInBounds_toArray, List.set_cons_zero, List.set_cons_succ, i64_w, i32_w]
        rfl
      refine one_ (i := 8) (N := some 7) #[true, true, true, true, true, true, true, true, true, false] rfl rfl (by kernel_rfl) (by decide) (fun K hK => ?_)
      refine value_ (w1 := ?_) (v := ?_) (by rfl) rfl ?_ ?_
      rotate_left 2
      · go_simp
        constructor
        · rfl
        · rfl
      refine hK.out _ _ ⟨H9a.out.cells.2.2.1, look9 H9a.out hq9.out hv9.out⟩ (fun hHeld => ?_)
      clear hK K
      refine norm_ (a' := ?_) ?_ ?_
      rotate_left
      · show Act.put _ (some 7) _ = _
        simp only [Act.put, List.setIfInBounds_toArray, List.set_cons_zero, List.set_cons_succ, i64_w, i32_w]
        rfl
      exact norm_ (by simp only [putAll, Act.put, List.setIfInBounds_toArray, List.set_cons_zero, List.set_cons_succ]) (hCont () _ rfl)
    · skip
      refine value_ (w1 := ?_) (v := ?_) (by rfl) rfl ?_ ?_
      rotate_left 2
      · go_simp
        constructor
        · rfl
        · rfl
      refine hK.out _ _ ⟨H9a.out.cells.2.2.1, look9 H9a.out hq9.out hv9.out⟩ (fun hHeld => ?_)
      clear hK K
      refine norm_ (a' := ?_) ?_ ?_
      rotate_left
      · show Act.put _ (some 7) _ = _
        simp only [Act.put, List.setIfInBounds_toArray, List.set_cons_zero, List.set_cons_succ, i64_w, i32_w]
        rfl
      refine one_ (i := 6) (N := some 18) #[true, true, true, true, true, true, true, false, true, false] rfl rfl (by kernel_rfl) (by decide) (fun K hK => ?_)
      refine goes_ Tryd.func27 (by kernel_rfl) rfl #[.pointer (some ⟨b, 0, none⟩), .int .i64 p] (by rfl) rfl rfl (by simp only [List.map_toArray, List.map_cons, List.map_nil]; rfl) ?_
      (with_reducible refine (end_calls H9a.out he.out).mono ?_)
      rintro e w3 ⟨rfl, rfl⟩
      refine ⟨_, rfl, ?_⟩
      refine hK.out _ _ ⟨hHeld.1, hHeld.2⟩ (fun hHeld => ?_)
      clear hK K
      refine norm_ (a' := ?_) ?_ ?_
      rotate_left
      · show Act.put _ (some 18) _ = _
        simp only [Act.put, List.setIfInBounds_toArray, List.set_cons_zero, List.set_cons_succ, i64_w, i32_w]
        rfl
      refine take_ (i := 7) (N := some 19) (v := ?_) (a' := ?_) #[true, true, true, true, true, true, true, true, true, false] rfl rfl (by kernel_rfl) (fun _ _ _ h => h) (Or.inl ⟨by rfl, ?_⟩) hHeld ?_ ?_
      rotate_left
      · rintro w' ⟨s0, s1⟩
        go_simp
        with_reducible rfl
      rotate_left
      · simp only [Act.put, List.setIfInBounds_toArray, List.set_cons_zero, List.set_cons_succ, i64_w, i32_w]
        rfl
      exact norm_ (by simp only [putAll, Act.put, List.setIfInBounds_toArray, List.set_cons_zero, List.set_cons_succ]) (hCont () _ rfl)
  rintro ⟨⟩ w' rfl
  have hHeld : (W9.alloc (.cells #[.int .i64 0, .slice none 0 0, .int .i64 0] 54)).cell? ⟨b, 2, none⟩ = some (.map (some mb)) ∧ (Instr.lookup 46 (.map (some mb)) (.int .i64 q) false).run Tryd.prog (W9.alloc (.cells #[.int .i64 0, .slice none 0 0, .int .i64 0] 54)) = .ok (.agg #[.int .i64 nd.tag, .slice A nd.fs.length c, .int .i64 nd.link]) (W9.alloc (.cells #[.int .i64 0, .slice none 0 0, .int .i64 0] 54)) := ⟨H9a.out.cells.2.2.1, look9 H9a.out hq9.out hv9.out⟩
  refine norm_ (a' := ?_) ?_ ?_
  rotate_left
  · simp only [putAll, Act.put, List.setIfInBounds_toArray, List.set_cons_zero, List.set_cons_succ]
    rfl
  refine last_ (i := 9) (N := none) #[true, true, true, true, true, true, true, true, true, true] rfl rfl (by kernel_rfl) (by decide) (fun K hK => ?_)
  refine skip_ (w1 := ?_) (by rfl) rfl ?_ ?_
  rotate_left
  · go_simp
    rfl
  refine hK.out _ _ ?_
  clear hK K
  refine done_ (by kernel_rfl) ?_
  have hbk := blk_new W9 (.cells #[.int .i64 nd.tag, .slice A nd.fs.length c, .int .i64 nd.link] 54 (0, 0))
  have HB10 : Aside0 (Below W.heap.size W (W9.alloc (.cells #[.int .i64 nd.tag, .slice A nd.fs.length c, .int .i64 nd.link] 54)).drew) := ⟨below_drew1 (below_alloc HB9.out _)⟩
  have C0 : Aside0 ((W9.alloc (.cells #[.int .i64 nd.tag, .slice A nd.fs.length c, .int .i64 nd.link] 54)).drew.cell? ⟨W9.heap.size, 0, none⟩ = some (.int .i64 nd.tag)) := ⟨(blk_cell hbk 0).trans rfl⟩
  have C1 : Aside0 ((W9.alloc (.cells #[.int .i64 nd.tag, .slice A nd.fs.length c, .int .i64 nd.link] 54)).drew.cell? ⟨W9.heap.size, 1, none⟩ = some (.slice A nd.fs.length c)) := ⟨(blk_cell hbk 1).trans rfl⟩
  have CC : Aside0 (Kd.C k33 (W9.alloc (.cells #[.int .i64 nd.tag, .slice A nd.fs.length c, .int .i64 nd.link] 54)).drew A nd.fs.length nd.fs) := ⟨by
    have h1 := H9.out.rows q _ hq9.out
    simp only [hv9.out] at h1
    exact Kd.C_below (Kd.R_reads' h1).2.2 (below_drew1 (below_alloc (Below.refl _ _) _))⟩
  clear hbk
  go_wp2
  refine start_ (n := 8) (S := fun w' => w'.cell? ⟨W9.heap.size, 0, none⟩ = some (.int .i64 nd.tag) ∧ w'.cell? ⟨W9.heap.size, 1, none⟩ = some (.slice A nd.fs.length c)) (ds := []) #[false, false, false, false, false, false, false, false] (by kernel_rfl) rfl rfl ⟨C0.out, C1.out⟩ (fun hHeld => ?_)
  generalize (W9.alloc (.cells #[.int .i64 nd.tag, .slice A nd.fs.length c, .int .i64 nd.link] 54)).drew = W8 at *
  refine pure_ (i := 0) (N := some 20) (v := ?_) (a' := ?_) #[true, false, false, false, false, false, false, false] rfl rfl (by kernel_rfl) (fun _ _ _ h => h) (Or.inl ⟨by rfl, ?_⟩) ?_ ?_
  rotate_left
  · intro w'
    go_simp
    with_reducible rfl
  rotate_left
  · simp only [Act.put, List.setIfInBounds_toArray, List.set_cons_zero, List.set_cons_succ, i64_w, i32_w]
    rfl
  refine pure_ (i := 2) (N := some 22) (v := ?_) (a' := ?_) #[true, false, true, false, false, false, false, false] rfl rfl (by kernel_rfl) (fun _ _ _ h => h) (Or.inl ⟨by rfl, ?_⟩) ?_ ?_
  rotate_left
  · intro w'
    go_simp
    with_reducible rfl
  rotate_left
  · simp only [Act.put, List.setIfInBounds_toArray, List.set_cons_zero, List.set_cons_succ, i64_w, i32_w]
    rfl
  refine take_ (i := 1) (N := some 21) (v := ?_) (a' := ?_) #[true, true, true, false, false, false, false, false] rfl rfl (by kernel_rfl) (fun _ _ _ h => h) (Or.inl ⟨by rfl, ?_⟩) hHeld ?_ ?_
  rotate_left
  · rintro w' ⟨s0, s1⟩
    go_simp
    with_reducible rfl
  rotate_left
  · simp only [Act.put, List.setIfInBounds_toArray, List.set_cons_zero, List.set_cons_succ, i64_w, i32_w]
    rfl
  refine take_ (i := 3) (N := some 23) (v := ?_) (a' := ?_) #[true, true, true, true, false, false, false, false] rfl rfl (by kernel_rfl) (fun _ _ _ h => h) (Or.inl ⟨by rfl, ?_⟩) hHeld ?_ ?_
  rotate_left
  · rintro w' ⟨s0, s1⟩
    go_simp
    with_reducible rfl
  rotate_left
  · simp only [Act.put, List.setIfInBounds_toArray, List.set_cons_zero, List.set_cons_succ, i64_w, i32_w]
    rfl
  refine one_ (i := 4) (N := some 24) #[true, true, true, true, true, false, false, false] rfl rfl (by kernel_rfl) (by decide) (fun K hK => ?_)
  refine goes_ Tryd.func24 (by kernel_rfl) rfl #[.slice A nd.fs.length c] (by rfl) rfl rfl (by simp only [List.map_toArray, List.map_cons, List.map_nil]; rfl) ?_
  (with_reducible refine (clone_calls nd.fs CC.out hl.out).mono ?_)
  rintro e w4 ⟨u, rfl, hr, hb⟩
  refine ⟨_, rfl, ?_⟩
  have HB11 := Aside0.mk (below_step HB10.out hb)
  have HR := Aside0.mk hr
  refine hK.out _ _ ⟨(hb.cell (World.block_lt_of_cell? _ _ (hHeld.1))).trans (hHeld.1), (hb.cell (World.block_lt_of_cell? _ _ (hHeld.2))).trans (hHeld.2)⟩ (fun hHeld => ?_)
  clear hK K
  refine norm_ (a' := ?_) ?_ ?_
  rotate_left
  · show Act.put _ (some 24) _ = _
    simp only [Act.put, List.setIfInBounds_toArray, List.set_cons_zero, List.set_cons_succ, i64_w, i32_w]
    rfl
  refine pure_ (i := 5) (N := some 4) (v := ?_) (a' := ?_) #[true, true, true, true, true, true, false, false] rfl rfl (by kernel_rfl) (fun _ _ _ h => h) (Or.inl ⟨by rfl, ?_⟩) ?_ ?_
  rotate_left
  · intro w'
    go_simp
    with_reducible rfl
  rotate_left
  · simp only [Act.put, List.setIfInBounds_toArray, List.set_cons_zero, List.set_cons_succ, i64_w, i32_w]
    rfl
  refine pure_ (i := 6) (N := some 5) (v := ?_) (a' := ?_) #[true, true, true, true, true, true, true, false] rfl rfl (by kernel_rfl) (fun _ _ _ h => h) (Or.inl ⟨by rfl, ?_⟩) ?_ ?_
  rotate_left
  · intro w'
    go_simp
    with_reducible rfl
  rotate_left
  · simp only [Act.put, List.setIfInBounds_toArray, List.set_cons_zero, List.set_cons_succ, i64_w, i32_w]
    rfl
  refine pure_ (i := 7) (N := some 6) (v := ?_) (a' := ?_) #[true, true, true, true, true, true, true, true] rfl rfl (by kernel_rfl) (fun _ _ _ h => h) (Or.inl ⟨by rfl, ?_⟩) ?_ ?_
  rotate_left
  · intro w'
    go_simp
    with_reducible rfl
  rotate_left
  · simp only [Act.put, List.setIfInBounds_toArray, List.set_cons_zero, List.set_cons_succ, i64_w, i32_w]
    rfl
  refine done_ (by kernel_rfl) ?_
  go_wp2
  refine bodyPost_ret (v := .tuple #[.int .i64 nd.tag, u, .bool true]) (by simp [results, Tryd.results16, go_sem]) rfl ⟨u, rfl, ?_, HB11.out⟩
  exact Kd.R_lower HR.out HB10.out.size
set_option maxHeartbeats 4000000 in
theorem node_no (h : HW W base b mb half used n f) {p : Int} (hp : WF p) (hn : f p = none) :
    Calls Tryd.prog 16 #[.pointer (some ⟨b, 0, none⟩), .int .i64 p] W fun e W' => e = .returned (.tuple #[.int .i64 0, .slice none 0 0, .bool false]) ∧ Below W.heap.size W W' := by
  have CI := is_calls h hp
  rw [hn] at CI
  clear h
  go_enter Tryd.func16, Tryd.ntmps16
  go_wp2_with (go_at_call 26; refine CI.mono ?_; rintro e w1 ⟨rfl, hb1⟩)
  exact bodyPost_ret (v := .tuple #[.int .i64 0, .slice none 0 0, .bool false]) (by simp [results, Tryd.results16, go_sem]) rfl ⟨rfl, hb1⟩
/-! ### Set -/
theorem HW.setField (h : HW W base b mb half used n f) {q : Int} {nd : Nd} {g c i : Nat} (hq : f q = some (nd, .slice (some ⟨g, 0, none⟩) nd.fs.length c)) (hi : i < nd.fs.length) (x : S33) :
    HW ((W.setCell ⟨g, i * 2, none⟩ (.bool x.f0)).setCell ⟨g, i * 2 + 1, none⟩ (.int .i64 x.f1)) base b mb half used n (updM f q ({ nd with fs := nd.fs.set i x }, .slice (some ⟨g, 0, none⟩) nd.fs.length c)) := by
  have hr : Kd.R k33 33 W base (okN b mb f q) (.slice (some ⟨g, 0, none⟩) nd.fs.length c) nd.fs := h.rows q _ hq
  obtain ⟨d, hdl, hdM, hdc, hf⟩ := Kd.R_elem hr z33 (i : Int) (by omega) (by omega)
  have hs := Kd.R_seg (d := k33) hr (i : Int) (by omega) (by omega) (c := d) (seg := [.bool x.f0, .int .i64 x.f1]) (j := 0) hdl hdc (show 0 + 2 ≤ 2 by decide) (x' := x) (okp := fun _ => False) (by
    have : d.drop (0 + [Value.bool x.f0, Value.int .i64 x.f1].length) = [] := List.drop_eq_nil_of_le (by rw [hdl]; exact Nat.le_of_eq rfl)
    rw [this]
    exact k33_mkM _ _ _ x) (fun _ hk => hk.elim)
  have hg : W.grownBy ((W.setCell ⟨g, i * 2, none⟩ (.bool x.f0)).setCell ⟨g, i * 2 + 1, none⟩ (.int .i64 x.f1)) (some g) := hs.2
  have hR : Kd.R k33 33 ((W.setCell ⟨g, i * 2, none⟩ (.bool x.f0)).setCell ⟨g, i * 2 + 1, none⟩ (.int .i64 x.f1)) base (okN b mb f q) (.slice (some ⟨g, 0, none⟩) nd.fs.length c) (nd.fs.set i x) := hs.1
  have hgo := hr.1 g rfl
  have hov : ∀ (p' : Int) (x' : Nd × Value), updM f q ({ nd with fs := nd.fs.set i x }, .slice (some ⟨g, 0, none⟩) nd.fs.length c) p' = some x' → ∃ x2, f p' = some x2 ∧ x2.2 = x'.2 ∧ x2.1.link = x'.1.link ∧ x2.1.tag = x'.1.tag := by
    intro p' x' hx'
    by_cases hp : p' = q
    · subst hp
      rw [updM_same] at hx'
      obtain rfl := Option.some.inj hx'
      exact ⟨_, hq, rfl, rfl, rfl⟩
    · rw [updM_ne f _ hp] at hx'
      exact ⟨x', hx', rfl, rfl, rfl⟩
  refine ⟨(hg.block b h.lt.1 (fun e => hgo.1 (Option.some.inj e).symm)).trans h.blk, ?_, fun p' x' hx' => ?_, h.ge, fun p' x' hx' => ?_⟩
  · have e : lits (updM f q ({ nd with fs := nd.fs.set i x }, .slice (some ⟨g, 0, none⟩) nd.fs.length c)) = lits f := by
      refine (lits_upd (F := lits f) ?_ (fun _ _ => rfl)).symm
      simp only [lits, hq, Option.map_some]
      rfl
    rw [e]
    exact h.map.of_block (hg.block mb h.lt.2 (fun e => hgo.2.1 (Option.some.inj e).symm))
  · have okk : ∀ j, okN b mb f p' j → okN b mb (updM f q ({ nd with fs := nd.fs.set i x }, .slice (some ⟨g, 0, none⟩) nd.fs.length c)) p' j := fun j hj => ⟨hj.1, hj.2.1, fun p2 x2 hne h2 => by
      obtain ⟨x3, h3, e, _⟩ := hov p2 x2 h2
      rw [← e]
      exact hj.2.2 p2 x3 hne h3⟩
    by_cases hp : p' = q
    · subst hp
      rw [updM_same] at hx'
      obtain rfl := Option.some.inj hx'
      have := Kd.R_mono hR okk
      simpa using this
    · rw [updM_ne f _ hp] at hx'
      have h2 := h.rows p' x' hx'
      exact R33_step h2 (fun j hj => hg.block j (Kd.R_lt h2 j hj) (fun e => (h2.1 j hj).2.2 q _ (Ne.symm hp) hq (by rw [e]; rfl))) (fun j hj => okk j (h2.1 j hj))
  · obtain ⟨x2, h2, _, hl, _⟩ := hov p' x' hx'
    rw [← hl]
    exact h.wl p' x2 h2
set_option maxHeartbeats 8000000 in
set_option maxRecDepth 100000 in
theorem set_yes (h : HW W base b mb half used n f) {k : Nat} {p q : Int} (he : EndsN f k p q) {nd : Nd} {v : Value} (hq : f q = some (nd, v)) (hl : nd.fs.length ≤ 100000) (i : Nat) (hi : i < nd.fs.length) (x : S33) (hx : x.f0 = true → WF x.f1) (hm : mayB f x = true) :
    Calls Tryd.prog 15 #[.pointer (some ⟨b, 0, none⟩), .int .i64 p, .int .i64 (i : Int), .agg #[.bool x.f0, .int .i64 x.f1]] W fun e W' => e = .returned (.bool true) ∧ HW W' base b mb half used n (updM f q ({ nd with fs := nd.fs.set i x }, v)) ∧ Mod W W' (fun j => v.ownBlock = some j) := by
  obtain ⟨xp, hxp⟩ := he.is
  have hwp := (h.wl p xp hxp).1
  have hb0 : Below W.heap.size W (W.alloc (.cells #[.bool x.f0, .int .i64 x.f1] 33)) := below_alloc (Below.refl _ _) _
  have CI := is_calls (h.below hb0) hwp
  rw [hxp] at CI
  have CM := fun W' (hb : Below W.heap.size W W') => may_calls (h.below hb) x hx
  rw [hm] at CM
  obtain ⟨g, c, hv, _⟩ := Kd.R_form (h.rows q _ hq) (show 0 < nd.fs.length by omega)
  simp only at hv
  subst hv
  have h9 := Aside0.mk h
  have he := Aside0.mk he
  have hq9 := Aside0.mk hq
  have hbx := Aside0.mk (blk_new W (.cells #[.bool x.f0, .int .i64 x.f1] 33 (0, 0)))
  have HB0 := Aside0.mk hb0
  have c0 : decide ((i : Int) < 0) = false := decide_eq_false (by omega)
  have c1 : decide ((nd.fs.length : Int) ≤ (i : Int)) = false := decide_eq_false (by omega)
  have p1 : (0 : Int) ≤ (i : Int) := by omega
  have p2 : (i : Int) < (nd.fs.length : Int) := by omega
  clear h hxp hb0 hm
  go_enter Tryd.func15, Tryd.ntmps15
  go_wp2_with (first | (go_at_call 26; refine CI.mono ?_; rintro e w1 ⟨rfl, hb1⟩; have HB1 := Aside0.mk (below_step HB0.out hb1); have hbx1 := blk_below hbx.out hb1; have hxc0 := (blk_cell hbx1 0).trans rfl; have hxc1 := (blk_cell hbx1 1).trans rfl; have hbx1 := Aside0.mk hbx1; clear hb1) | (go_at_call 23; refine (CM _ HB1.out).mono ?_; rintro e w2 ⟨rfl, hb2⟩; have HB2 := Aside0.mk (below_step HB1.out hb2); have hbx2 := Aside0.mk (blk_below hbx1.out hb2); clear hb2))
  have hv9 : Aside0 (Value.slice (some ⟨g, 0, none⟩) nd.fs.length c = .slice (some ⟨g, 0, none⟩) nd.fs.length c) := ⟨rfl⟩
  have HB9 : Aside0 (Below W.heap.size W w2.drew) := ⟨below_drew1 HB2.out⟩
  have hbx9 : Aside0 (w2.drew.heap[W.heap.size]? = some (.cells #[.bool x.f0, .int .i64 x.f1] 33 (0, 0))) := ⟨hbx2.out⟩
  have H9 : Aside0 (HW w2.drew base b mb half used n f) := ⟨h9.out.below HB9.out⟩
  have H9a : Aside0 (HW (w2.drew.alloc (.cells #[.int .i64 0, .slice none 0 0, .int .i64 0] 54)) base b mb half used n f) := ⟨H9.out.below (below_alloc (Below.refl _ _) _)⟩
  clear hxc0 hxc1
  refine start_ (n := 10) (S := fun w' => w'.cell? ⟨b, 2, none⟩ = some (.map (some mb)) ∧ (Instr.lookup 46 (.map (some mb)) (.int .i64 q) false).run Tryd.prog w' = .ok (.agg #[.int .i64 nd.tag, .slice (some ⟨g, 0, none⟩) nd.fs.length c, .int .i64 nd.link]) w') (ds := [9]) #[false, false, false, false, false, false, false, false, false, false] (by kernel_rfl) rfl rfl ⟨H9.out.cells.2.2.1, look9 H9.out hq9.out hv9.out⟩ (fun hHeld => ?_)
  generalize w2.drew = W9 at *
  refine pure_ (i := 0) (N := some 20) (v := ?_) (a' := ?_) #[true, false, false, false, false, false, false, false, false, false] rfl rfl (by kernel_rfl) (fun _ _ _ h => h) (Or.inl ⟨by rfl, ?_⟩) ?_ ?_
  rotate_left
  · intro w'
    go_simp
    with_reducible rfl
  rotate_left
  · simp only [Act.put, List.setIfInBounds_toArray, List.set_cons_zero, List.set_cons_succ, i64_w, i32_w]
    rfl
  refine pure_ (i := 1) (N := some 21) (v := ?_) (a' := ?_) #[true, true, false, false, false, false, false, false, false, false] rfl rfl (by kernel_rfl) (fun _ _ _ h => h) (Or.inl ⟨by rfl, ?_⟩) ?_ ?_
  rotate_left
  · intro w'
    go_simp
    with_reducible rfl
  rotate_left
  · simp only [Act.put, List.setIfInBounds_toArray, List.set_cons_zero, List.set_cons_succ, i64_w, i32_w]
    rfl
  refine pure_ (i := 2) (N := some 22) (v := ?_) (a' := ?_) #[true, true, true, false, false, false, false, false, false, false] rfl rfl (by kernel_rfl) (fun _ _ _ h => h) (Or.inl ⟨by rfl, ?_⟩) ?_ ?_
  rotate_left
  · intro w'
    go_simp
    with_reducible rfl
  rotate_left
  · simp only [Act.put, List.setIfInBounds_toArray, List.set_cons_zero, List.set_cons_succ, i64_w, i32_w]
    rfl
  refine pure_ (i := 4) (N := some 24) (v := ?_) (a' := ?_) #[true, true, true, false, true, false, false, false, false, false] rfl rfl (by kernel_rfl) (fun _ _ _ h => h) (Or.inl ⟨by rfl, ?_⟩) ?_ ?_
  rotate_left
  · intro w'
    go_simp
    with_reducible rfl
  rotate_left
  · simp only [Act.put, List.setIfInBounds_toArray, List.set_cons_zero, List.set_cons_succ, i64_w, i32_w]
    rfl
  refine pure_ (i := 5) (N := some 25) (v := ?_) (a' := ?_) #[true, true, true, false, true, true, false, false, false, false] rfl rfl (by kernel_rfl) (fun _ _ _ h => h) (Or.inl ⟨by rfl, ?_⟩) ?_ ?_
  rotate_left
  · intro w'
    go_simp
    with_reducible rfl
  rotate_left
  · simp only [Act.put, List.setIfInBounds_toArray, List.set_cons_zero, List.set_cons_succ, i64_w, i32_w]
    rfl
  refine take_ (i := 3) (N := some 23) (v := ?_) (a' := ?_) #[true, true, true, true, true, true, false, false, false, false] rfl rfl (by kernel_rfl) (fun _ _ _ h => h) (Or.inl ⟨by rfl, ?_⟩) hHeld ?_ ?_
  rotate_left
  · rintro w' ⟨s0, s1⟩
    go_simp
    with_reducible rfl
  rotate_left
  · simp only [Act.put, List.setIfInBounds_toArray, List.set_cons_zero, List.set_cons_succ, i64_w, i32_w]
    rfl
  refine join_ (σ := Unit) 1 #[true, true, true, true, true, true, true, true, true, false] (fun _ => [(26, .int .i64 q), (9, .pointer (some ⟨W9.heap.size, 0, none⟩)), (27, .agg #[.int .i64 nd.tag, .slice (some ⟨g, 0, none⟩) nd.fs.length c, .int .i64 nd.link])]) (fun _ w' => w' = (W9.alloc (.cells #[.int .i64 0, .slice none 0 0, .int .i64 0] 54))) ?_ ?_
  rotate_left
  · intro hCont
    refine two_ (i := 6) (j := 8) (Ni := some 26) (Nj := some 9) #[true, true, true, true, true, true, true, false, false, false] #[true, true, true, true, true, true, false, false, true, false] rfl rfl rfl rfl (by kernel_rfl) (by decide) (by decide) (fun K hK => ?_) (fun K hK => ?_)
    · skip
      refine goes_ Tryd.func27 (by kernel_rfl) rfl #[.pointer (some ⟨b, 0, none⟩), .int .i64 p] (by rfl) rfl rfl (by simp only [List.map_toArray, List.map_cons, List.map_nil]; rfl) ?_
      (with_reducible refine (end_calls H9.out he.out).mono ?_)
      rintro e w3 ⟨rfl, rfl⟩
      refine ⟨_, rfl, ?_⟩
      refine hK.out _ _ ⟨hHeld.1, hHeld.2⟩ (fun hHeld => ?_)
      clear hK K
      refine norm_ (a' := ?_) ?_ ?_
      rotate_left
      · show Act.put _ (some 26) _ = _
        simp only [Act.put, List.setIfInBounds_toArray, List.set_cons_zero, List.set_cons_succ, i64_w, i32_w]
        rfl
      refine take_ (i := 7) (N := some 27) (v := ?_) (a' := ?_) #[true, true, true, true, true, true, true, true, false, false] rfl rfl (by kernel_rfl) (fun _ _ _ h => h) (Or.inl ⟨by rfl, ?_⟩) hHeld ?_ ?_
      rotate_left
      · rintro w' ⟨s0, s1⟩
        go_simp
        with_reducible rfl
      rotate_left
      · simp only [Act.put, List.setIfInBounds_toArray, List.set_cons_zero, List.set_cons_succ, i64_w, i32_w]
        rfl
      refine one_ (i := 8) (N := some 9) #[true, true, true, true, true, true, true, true, true, false] rfl rfl (by kernel_rfl) (by decide) (fun K hK => ?_)
      refine value_ (w1 := ?_) (v := ?_) (by rfl) rfl ?_ ?_
      rotate_left 2
      · go_simp
        constructor
        · rfl
        · rfl
      refine hK.out _ _ ⟨H9a.out.cells.2.2.1, look9 H9a.out hq9.out hv9.out⟩ (fun hHeld => ?_)
      clear hK K
      refine norm_ (a' := ?_) ?_ ?_
      rotate_left
      · show Act.put _ (some 9) _ = _
        simp only [Act.put, List.setIfInBounds_toArray, List.set_cons_zero, List.set_cons_succ, i64_w, i32_w]
        rfl
      exact norm_ (by simp only [putAll, Act.put, List.setIfInBounds_toArray, List.set_cons_zero, List.set_cons_succ]) (hCont () _ rfl)
    · skip
      refine value_ (w1 := ?_) (v := ?_) (by rfl) rfl ?_ ?_
      rotate_left 2
      · go_simp
        constructor
        · rfl
        · rfl
      refine hK.out _ _ ⟨H9a.out.cells.2.2.1, look9 H9a.out hq9.out hv9.out⟩ (fun hHeld => ?_)
      clear hK K
      refine norm_ (a' := ?_) ?_ ?_
      rotate_left
      · show Act.put _ (some 9) _ = _
        simp only [Act.put, List.setIfInBounds_toArray, List.set_cons_zero, List.set_cons_succ, i64_w, i32_w]
        rfl
      refine one_ (i := 6) (N := some 26) #[true, true, true, true, true, true, true, false, true, false] rfl rfl (by kernel_rfl) (by decide) (fun K hK => ?_)
      refine goes_ Tryd.func27 (by kernel_rfl) rfl #[.pointer (some ⟨b, 0, none⟩), .int .i64 p] (by rfl) rfl rfl (by simp only [List.map_toArray, List.map_cons, List.map_nil]; rfl) ?_
      (with_reducible refine (end_calls H9a.out he.out).mono ?_)
      rintro e w3 ⟨rfl, rfl⟩
      refine ⟨_, rfl, ?_⟩
      refine hK.out _ _ ⟨hHeld.1, hHeld.2⟩ (fun hHeld => ?_)
      clear hK K
      refine norm_ (a' := ?_) ?_ ?_
      rotate_left
      · show Act.put _ (some 26) _ = _
        simp only [Act.put, List.setIfInBounds_toArray, List.set_cons_zero, List.set_cons_succ, i64_w, i32_w]
        rfl
      refine take_ (i := 7) (N := some 27) (v := ?_) (a' := ?_) #[true, true, true, true, true, true, true, true, true, false] rfl rfl (by kernel_rfl) (fun _ _ _ h => h) (Or.inl ⟨by rfl, ?_⟩) hHeld ?_ ?_
      rotate_left
      · rintro w' ⟨s0, s1⟩
        go_simp
        with_reducible rfl
      rotate_left
      · simp only [Act.put, List.setIfInBounds_toArray, List.set_cons_zero, List.set_cons_succ, i64_w, i32_w]
        rfl
      exact norm_ (by simp only [putAll, Act.put, List.setIfInBounds_toArray, List.set_cons_zero, List.set_cons_succ]) (hCont () _ rfl)
  rintro ⟨⟩ w' rfl
  have hHeld : (W9.alloc (.cells #[.int .i64 0, .slice none 0 0, .int .i64 0] 54)).cell? ⟨b, 2, none⟩ = some (.map (some mb)) ∧ (Instr.lookup 46 (.map (some mb)) (.int .i64 q) false).run Tryd.prog (W9.alloc (.cells #[.int .i64 0, .slice none 0 0, .int .i64 0] 54)) = .ok (.agg #[.int .i64 nd.tag, .slice (some ⟨g, 0, none⟩) nd.fs.length c, .int .i64 nd.link]) (W9.alloc (.cells #[.int .i64 0, .slice none 0 0, .int .i64 0] 54)) := ⟨H9a.out.cells.2.2.1, look9 H9a.out hq9.out hv9.out⟩
  refine norm_ (a' := ?_) ?_ ?_
  rotate_left
  · simp only [putAll, Act.put, List.setIfInBounds_toArray, List.set_cons_zero, List.set_cons_succ]
    rfl
  refine last_ (i := 9) (N := none) #[true, true, true, true, true, true, true, true, true, true] rfl rfl (by kernel_rfl) (by decide) (fun K hK => ?_)
  refine skip_ (w1 := ?_) (by rfl) rfl ?_ ?_
  rotate_left
  · go_simp
    rfl
  refine hK.out _ _ ?_
  clear hK K
  refine done_ (by kernel_rfl) ?_
  have hbw := blk_alloc hbx9.out (.cells #[.int .i64 nd.tag, .slice (some ⟨g, 0, none⟩) nd.fs.length c, .int .i64 nd.link] 54)
  have hx0 := (blk_cell hbw 0).trans rfl
  have hx1 := (blk_cell hbw 1).trans rfl
  have H10 := H9.out.below (W1 := W9.alloc (.cells #[.int .i64 nd.tag, .slice (some ⟨g, 0, none⟩) nd.fs.length c, .int .i64 nd.link] 54)) (below_alloc (Below.refl _ _) _)
  obtain ⟨d, hdl, hdM, hdc, hf⟩ := Kd.R_elem (show Kd.R k33 33 _ base (okN b mb f q) (.slice (some ⟨g, 0, none⟩) nd.fs.length c) nd.fs from H10.rows q _ hq9.out) z33 (i : Int) (by omega) (by omega)
  have hd := k33_openM hdM
  subst hd
  have he0 : (W9.alloc (.cells #[.int .i64 nd.tag, .slice (some ⟨g, 0, none⟩) nd.fs.length c, .int .i64 nd.link] 54)).cell? ⟨g, i * 2, none⟩ = _ := hdc 0 _ rfl
  have he1 : (W9.alloc (.cells #[.int .i64 nd.tag, .slice (some ⟨g, 0, none⟩) nd.fs.length c, .int .i64 nd.link] 54)).cell? ⟨g, i * 2 + 1, none⟩ = _ := hdc 1 _ rfl
  have hf0 : (W9.alloc (.cells #[.int .i64 nd.tag, .slice (some ⟨g, 0, none⟩) nd.fs.length c, .int .i64 nd.link] 54)).frozen? ⟨g, i * 2, none⟩ = false := hf 0
  have hf1 : (W9.alloc (.cells #[.int .i64 nd.tag, .slice (some ⟨g, 0, none⟩) nd.fs.length c, .int .i64 nd.link] 54)).frozen? ⟨g, i * 2 + 1, none⟩ = false := hf 1
  have HS := Aside0.mk (H10.setField hq9.out hi x)
  have HM := Aside0.mk (show Mod W _ (fun j => j = g) from ((Mod.of_below (below_alloc HB9.out (.cells #[.int .i64 nd.tag, .slice (some ⟨g, 0, none⟩) nd.fs.length c, .int .i64 nd.link] 54)) _).trans (Mod.of_set _ ⟨g, i * 2, none⟩ (.bool x.f0)) (fun _ _ h => h)).trans (Mod.of_set _ ⟨g, i * 2 + 1, none⟩ (.int .i64 x.f1)) (fun _ _ h => h))
  clear hbw H10 hdc hf hdM hdl
  go_wp2
  go_ret
  exact ⟨rfl, HS.out, HM.out.mono (fun j _ hj => by rw [hj]; rfl)⟩
end
end Go.Proofs.YtepaddjjdhpmpaaDoor.HeapA
