/- (*Heap).Alloc. No condition beyond those that each states. -/
import Derived.Test.YtepaddjjdhpmpaaDoorHeapB
import Derived.Deep.RegionHeld3
namespace Go.Proofs.YtepaddjjdhpmpaaDoor.HeapA
open Go.RowKit Go.Proofs.YtepaddjjdhpmpaaDoorW.PrintWords Go.Proofs.YtepaddjjdhpmpaaDoorW.PrintLast Go.Proofs.YtepaddjjdhpmpaaDoorW.PrintMore Go.Proofs.YtepaddjjdhpmpaaDoor.HeapK Go.Proofs.YtepaddjjdhpmpaaDoor.PHeapP
set_option linter.unusedVariables false
set_option linter.unusedSimpArgs false
section
variable {W W1 : World} {base b mb n : Nat} {half used : Int} {f : NM}
def szI (m : Nat) : Int := mx ((m : Int) + 2) 3
theorem cell_grown2 {g : Nat} {a : Addr} {v : Value} (hg : W.grownBy W1 (some g)) (h : W.cell? a = some v) (hne : a.block ≠ g) : W1.cell? a = some v := by
  have := hg.block a.block (World.block_lt_of_cell? _ _ h) (fun e => hne (Option.some.inj e))
  rw [World.cell?] at h ⊢
  rwa [this]
theorem bx_ne (h : HW W base b mb half used n f) : (⟨W.heap.size, 0, none⟩ : Addr).block ≠ mb := Nat.ne_of_gt h.lt.2
/-- A node more, or another one at a place. -/
theorem HW.add (h : HW W base b mb half used n f) {p : Int} {nd : Nd} {v : Value} {F7 : Lit → Option Value} (hM : MapF W1 Tryd.prog 2 mb (n + 1) F7) (h1 : F7 (.int .i64 p) = some (nodeVal (nd, v))) (h2 : ∀ l, l ≠ .int .i64 p → F7 l = lits f l) (hg : W.grownBy W1 (some mb))
    (hR : Kd.R k33 33 W base (fun _ => True) v nd.fs) (hv : ∀ j, v.ownBlock = some j → okN b mb f p j) (hp : WF p) (hl : WF nd.link) : HW W1 base b mb half used (n + 1) (updM f p (nd, v)) where
  blk := (hg.block b h.lt.1 (fun e => h.ne (Option.some.inj e))).trans h.blk
  map := lits_upd h1 h2 ▸ hM
  rows := fun q x hq => by
    by_cases hqp : q = p
    · subst hqp
      rw [updM_same] at hq
      obtain rfl := Option.some.inj hq
      exact R33_step hR (fun j hj => hg.block j (Kd.R_lt hR j hj) (fun e => (hv j hj).2.1 (Option.some.inj e))) (fun j hj => ⟨(hv j hj).1, (hv j hj).2.1, fun p' x' hne hx' => by rw [updM_ne f _ hne] at hx'; exact (hv j hj).2.2 p' x' hne hx'⟩)
    · rw [updM_ne f _ hqp] at hq
      have hr := h.rows q x hq
      refine R33_step hr (fun j hj => hg.block j (Kd.R_lt hr j hj) (fun e => (hr.1 j hj).2.1 (Option.some.inj e))) (fun j hj => ⟨(hr.1 j hj).1, (hr.1 j hj).2.1, fun p' x' hne hx' => ?_⟩)
      by_cases hpp : p' = p
      · subst hpp
        rw [updM_same] at hx'
        obtain rfl := Option.some.inj hx'
        intro e
        exact (hv j e.symm).2.2 q x hqp hq hj.symm
      · rw [updM_ne f _ hpp] at hx'
        exact (hr.1 j hj).2.2 p' x' hne hx'
  ge := h.ge
  wl := fun q x hq => by
    by_cases hqp : q = p
    · subst hqp
      rw [updM_same] at hq
      obtain rfl := Option.some.inj hq
      exact ⟨hp, hl⟩
    · rw [updM_ne f _ hqp] at hq
      exact h.wl q x hq
theorem HW.setUsed (h : HW W base b mb half used n f) (u : Int) : HW (W.setCell ⟨b, 1, none⟩ (.int .i64 u)) base b mb half u n f where
  blk := blk_put h.blk 1 _ rfl
  map := h.map.of_block (Below.heap_setCell W ⟨b, 1, none⟩ _ mb (Ne.symm h.ne))
  rows := fun p x hp => by
    have hr := h.rows p x hp
    exact R33_step hr (fun j hj => Below.heap_setCell W ⟨b, 1, none⟩ _ j (hr.1 j hj).1) (fun j hj => hr.1 j hj)
  ge := h.ge
  wl := h.wl
theorem contains_no (h : HW W base b mb half used n f) (ws : List S33) (hws : WFs ws) (hbad : badB f ws = false) {A : Option Addr} {c : Nat} (hC : Kd.C k33 W A ws.length ws) (bx : Nat) (hx : W.cell? ⟨bx, 0, none⟩ = some (.pointer (some ⟨b, 0, none⟩))) :
    Calls Tryd.prog 21 #[.slice A ws.length c, .func (.func 22) #[] #[.pointer (some ⟨bx, 0, none⟩)]] W fun e W' => e = .returned (.bool false) ∧ Below W.heap.size W W' := by
  have := contains_calls h ws hws hC (c := c) bx hx
  rwa [hbad] at this
set_option maxHeartbeats 8000000 in
set_option maxRecDepth 100000 in
theorem alloc_yes (h : HW W base b mb half used n f) (tag : Int) (ht : 0 ≤ tag) (ws : List S33) (hws : WFs ws) {A : Option Addr} {c : Nat} (hC : Kd.C k33 W A ws.length ws) (hl : ws.length ≤ 100000) (hbad : badB f ws = false) (hu0 : 0 ≤ used) (hu1 : used ≤ half) (hh : half ≤ 10000000) (hroom : szI ws.length ≤ half - used) (hn : n < maxLen) (hb0 : base ≤ W.heap.size) :
    Calls Tryd.prog 11 #[.pointer (some ⟨b, 0, none⟩), .int .i64 tag, .slice A ws.length c] W fun e W' => e = .returned (.tuple #[.int .i64 used, .bool true]) ∧ ∃ v, HW W' base b mb half (used + szI ws.length) (n + 1) (updM f used (⟨tag, ws, -1⟩, v)) ∧ Mod W W' (fun j => j = b ∨ j = mb) ∧ ∀ j, v.ownBlock = some j → W.heap.size ≤ j := by
  have h9 := Aside0.mk h
  have hC9 := Aside0.mk hC
  have hws := Aside0.mk hws
  have hbad := Aside0.mk hbad
  have hn := Aside0.mk hn
  have hl16 := Aside0.mk (show ws.length * 16 ≤ 140737488355328 by omega)
  have hwu := Aside0.mk (show WF used from ⟨by omega, by omega⟩)
  have hsz0 : 3 ≤ szI ws.length := by unfold szI mx; omega
  have c0 : decide (tag < 0) = false := decide_eq_false (by omega)
  have c1 : decide (half - used < szI ws.length) = false := decide_eq_false (by omega)
  have w1 : wrap64 (half - used) = half - used := by unfold wrap64; omega
  have w2 : wrap64 (used + szI ws.length) = used + szI ws.length := by unfold wrap64; omega
  have CS : ∀ w, Calls Tryd.prog 20 #[.int .i64 (ws.length : Int)] w fun e w' => e = .returned (.int .i64 (szI ws.length)) ∧ Below w.heap.size w w' := fun w => size_calls (ws.length : Int) (by omega) (by omega) w
  have HB := Aside0.mk (below_alloc (Below.refl W.heap.size W) (.cells #[.pointer (some ⟨b, 0, none⟩)] 24))
  have hbx := Aside0.mk (blk_new W (.cells #[.pointer (some ⟨b, 0, none⟩)] 24 (0, 0)))
  have hb0 := Aside0.mk hb0
  have hq := Aside0.mk (And.intro hu0 (And.intro hu1 (And.intro hh hroom)))
  clear h hC hl hu0 hu1 hh hroom
  go_enter Tryd.func11, Tryd.ntmps11
  go_wp2_with (go_at_call 20; refine (CS _).mono ?_; rintro e w2 ⟨rfl, hb2⟩; have HB2 := Aside0.mk (below_step HB.out hb2); have hbx2 := Aside0.mk (blk_below hbx.out hb2); clear hb2)
  have H9 : Aside0 (HW w2.drew base b mb half used n f) := ⟨h9.out.below (below_drew1 HB2.out)⟩
  have HB9 : Aside0 (Below W.heap.size W w2.drew) := ⟨below_drew1 HB2.out⟩
  have A0 : Aside0 (w2.drew.cell? ⟨W.heap.size, 0, none⟩ = some (.pointer (some ⟨b, 0, none⟩))) := ⟨(blk_cell hbx2.out 0).trans rfl⟩
  have A1 : Aside0 (w2.drew.cell? ⟨b, 0, none⟩ = some (.int .i64 half)) := ⟨H9.out.cells.1⟩
  have A2 : Aside0 (w2.drew.cell? ⟨b, 1, none⟩ = some (.int .i64 used)) := ⟨H9.out.cells.2.1⟩
  refine start_ (n := 20) (S := fun w' => w'.cell? ⟨W.heap.size, 0, none⟩ = some (.pointer (some ⟨b, 0, none⟩)) ∧ w'.cell? ⟨b, 0, none⟩ = some (.int .i64 half) ∧ w'.cell? ⟨b, 1, none⟩ = some (.int .i64 used)) (ds := []) #[false, false, false, false, false, false, false, false, false, false, false, false, false, false, false, false, false, false, false, false] (by kernel_rfl) rfl rfl ⟨A0.out, A1.out, A2.out⟩ (fun hHeld => ?_)
  generalize w2.drew = W9 at *
  refine pure_ (i := 0) (N := some 13) (v := ?_) (a' := ?_) #[true, false, false, false, false, false, false, false, false, false, false, false, false, false, false, false, false, false, false, false] rfl rfl (by kernel_rfl) (fun _ _ _ h => h) (Or.inl ⟨by rfl, ?_⟩) ?_ ?_
  rotate_left
  · intro w'
    go_simp
    with_reducible rfl
  rotate_left
  · simp only [Act.put, List.setIfInBounds_toArray, List.set_cons_zero, List.set_cons_succ, i64_w, i32_w]
    rfl
  refine pure_ (i := 1) (N := some 14) (v := ?_) (a' := ?_) #[true, true, false, false, false, false, false, false, false, false, false, false, false, false, false, false, false, false, false, false] rfl rfl (by kernel_rfl) (fun _ _ _ h => h) (Or.inl ⟨by rfl, ?_⟩) ?_ ?_
  rotate_left
  · intro w'
    go_simp
    with_reducible rfl
  rotate_left
  · simp only [Act.put, List.setIfInBounds_toArray, List.set_cons_zero, List.set_cons_succ, i64_w, i32_w]
    rfl
  refine pure_ (i := 2) (N := some 15) (v := ?_) (a' := ?_) #[true, true, true, false, false, false, false, false, false, false, false, false, false, false, false, false, false, false, false, false] rfl rfl (by kernel_rfl) (fun _ _ _ h => h) (Or.inl ⟨by rfl, ?_⟩) ?_ ?_
  rotate_left
  · intro w'
    go_simp
    with_reducible rfl
  rotate_left
  · simp only [Act.put, List.setIfInBounds_toArray, List.set_cons_zero, List.set_cons_succ, i64_w, i32_w]
    rfl
  refine pure_ (i := 3) (N := some 16) (v := ?_) (a' := ?_) #[true, true, true, true, false, false, false, false, false, false, false, false, false, false, false, false, false, false, false, false] rfl rfl (by kernel_rfl) (fun _ _ _ h => h) (Or.inl ⟨by rfl, ?_⟩) ?_ ?_
  rotate_left
  · intro w'
    go_simp
    with_reducible rfl
  rotate_left
  · simp only [Act.put, List.setIfInBounds_toArray, List.set_cons_zero, List.set_cons_succ, i64_w, i32_w]
    rfl
  refine pure_ (i := 4) (N := some 17) (v := ?_) (a' := ?_) #[true, true, true, true, true, false, false, false, false, false, false, false, false, false, false, false, false, false, false, false] rfl rfl (by kernel_rfl) (fun _ _ _ h => h) (Or.inl ⟨by rfl, ?_⟩) ?_ ?_
  rotate_left
  · intro w'
    go_simp
    with_reducible rfl
  rotate_left
  · simp only [Act.put, List.setIfInBounds_toArray, List.set_cons_zero, List.set_cons_succ, i64_w, i32_w]
    rfl
  refine one_ (i := 5) (N := some 18) #[true, true, true, true, true, true, false, false, false, false, false, false, false, false, false, false, false, false, false, false] rfl rfl (by kernel_rfl) (by decide) (fun K hK => ?_)
  refine goes_ Tryd.func21 (by kernel_rfl) rfl #[.slice A ws.length c, .func (.func 22) #[] #[.pointer (some ⟨W.heap.size, 0, none⟩)]] (by rfl) rfl rfl (by simp only [List.map_toArray, List.map_cons, List.map_nil]; rfl) ?_
  (with_reducible refine (contains_no H9.out ws hws.out hbad.out (Kd.C_below hC9.out HB9.out) W.heap.size hHeld.1).mono ?_)
  rintro e w3 ⟨rfl, hb⟩
  refine ⟨_, rfl, ?_⟩
  have HB3 := Aside0.mk (below_step HB9.out hb)
  refine hK.out _ _ ⟨(hb.cell (World.block_lt_of_cell? _ _ (hHeld.1))).trans (hHeld.1), (hb.cell (World.block_lt_of_cell? _ _ (hHeld.2.1))).trans (hHeld.2.1), (hb.cell (World.block_lt_of_cell? _ _ (hHeld.2.2))).trans (hHeld.2.2)⟩ (fun hHeld => ?_)
  clear hK K
  refine norm_ (a' := ?_) ?_ ?_
  rotate_left
  · show Act.put _ (some 18) _ = _
    simp only [Act.put, List.setIfInBounds_toArray, List.set_cons_zero, List.set_cons_succ, i64_w, i32_w]
    rfl
  refine pure_ (i := 6) (N := some 19) (v := ?_) (a' := ?_) #[true, true, true, true, true, true, true, false, false, false, false, false, false, false, false, false, false, false, false, false] rfl rfl (by kernel_rfl) (fun _ _ _ h => h) (Or.inl ⟨by rfl, ?_⟩) ?_ ?_
  rotate_left
  · intro w'
    go_simp
    with_reducible rfl
  rotate_left
  · simp only [Act.put, List.setIfInBounds_toArray, List.set_cons_zero, List.set_cons_succ, i64_w, i32_w]
    rfl
  refine pure_ (i := 7) (N := some 20) (v := ?_) (a' := ?_) #[true, true, true, true, true, true, true, true, false, false, false, false, false, false, false, false, false, false, false, false] rfl rfl (by kernel_rfl) (fun _ _ _ h => h) (Or.inl ⟨by rfl, ?_⟩) ?_ ?_
  rotate_left
  · intro w'
    go_simp
    with_reducible rfl
  rotate_left
  · simp only [Act.put, List.setIfInBounds_toArray, List.set_cons_zero, List.set_cons_succ, i64_w, i32_w]
    rfl
  refine pure_ (i := 17) (N := some 30) (v := ?_) (a' := ?_) #[true, true, true, true, true, true, true, true, false, false, false, false, false, false, false, false, false, true, false, false] rfl rfl (by kernel_rfl) (fun _ _ _ h => h) (Or.inl ⟨by rfl, ?_⟩) ?_ ?_
  rotate_left
  · intro w'
    go_simp
    with_reducible rfl
  rotate_left
  · simp only [Act.put, List.setIfInBounds_toArray, List.set_cons_zero, List.set_cons_succ, i64_w, i32_w]
    rfl
  refine take_ (i := 8) (N := some 21) (v := ?_) (a' := ?_) #[true, true, true, true, true, true, true, true, true, false, false, false, false, false, false, false, false, true, false, false] rfl rfl (by kernel_rfl) (fun _ _ _ h => h) (Or.inl ⟨by rfl, ?_⟩) hHeld ?_ ?_
  rotate_left
  · rintro w' ⟨s0, s1, s2⟩
    go_simp
    with_reducible rfl
  rotate_left
  · simp only [Act.put, List.setIfInBounds_toArray, List.set_cons_zero, List.set_cons_succ, i64_w, i32_w]
    rfl
  refine pure_ (i := 9) (N := some 22) (v := ?_) (a' := ?_) #[true, true, true, true, true, true, true, true, true, true, false, false, false, false, false, false, false, true, false, false] rfl rfl (by kernel_rfl) (fun _ _ _ h => h) (Or.inl ⟨by rfl, ?_⟩) ?_ ?_
  rotate_left
  · intro w'
    go_simp
    with_reducible rfl
  rotate_left
  · simp only [Act.put, List.setIfInBounds_toArray, List.set_cons_zero, List.set_cons_succ, i64_w, i32_w]
    rfl
  refine pure_ (i := 10) (N := some 23) (v := ?_) (a' := ?_) #[true, true, true, true, true, true, true, true, true, true, true, false, false, false, false, false, false, true, false, false] rfl rfl (by kernel_rfl) (fun _ _ _ h => h) (Or.inl ⟨by rfl, ?_⟩) ?_ ?_
  rotate_left
  · intro w'
    go_simp
    with_reducible rfl
  rotate_left
  · simp only [Act.put, List.setIfInBounds_toArray, List.set_cons_zero, List.set_cons_succ, i64_w, i32_w]
    rfl
  refine take_ (i := 11) (N := some 24) (v := ?_) (a' := ?_) #[true, true, true, true, true, true, true, true, true, true, true, true, false, false, false, false, false, true, false, false] rfl rfl (by kernel_rfl) (fun _ _ _ h => h) (Or.inl ⟨by rfl, ?_⟩) hHeld ?_ ?_
  rotate_left
  · rintro w' ⟨s0, s1, s2⟩
    go_simp
    with_reducible rfl
  rotate_left
  · simp only [Act.put, List.setIfInBounds_toArray, List.set_cons_zero, List.set_cons_succ, i64_w, i32_w]
    rfl
  refine take_ (i := 12) (N := some 25) (v := ?_) (a' := ?_) #[true, true, true, true, true, true, true, true, true, true, true, true, true, false, false, false, false, true, false, false] rfl rfl (by kernel_rfl) (fun _ _ _ h => h) (Or.inl ⟨by rfl, ?_⟩) hHeld ?_ ?_
  rotate_left
  · rintro w' ⟨s0, s1, s2⟩
    go_simp
    with_reducible rfl
  rotate_left
  · simp only [Act.put, List.setIfInBounds_toArray, List.set_cons_zero, List.set_cons_succ, i64_w, i32_w]
    rfl
  refine pure_ (i := 13) (N := some 26) (v := ?_) (a' := ?_) #[true, true, true, true, true, true, true, true, true, true, true, true, true, true, false, false, false, true, false, false] rfl rfl (by kernel_rfl) (fun _ _ _ h => h) (Or.inl ⟨by rfl, ?_⟩) ?_ ?_
  rotate_left
  · intro w'
    go_simp
    with_reducible rfl
  rotate_left
  · simp only [Act.put, List.setIfInBounds_toArray, List.set_cons_zero, List.set_cons_succ, i64_w, i32_w]
    rfl
  refine pure_ (i := 14) (N := some 27) (v := ?_) (a' := ?_) #[true, true, true, true, true, true, true, true, true, true, true, true, true, true, true, false, false, true, false, false] rfl rfl (by kernel_rfl) (fun _ _ _ h => h) (Or.inl ⟨by rfl, ?_⟩) ?_ ?_
  rotate_left
  · intro w'
    go_simp
    with_reducible rfl
  rotate_left
  · simp only [Act.put, List.setIfInBounds_toArray, List.set_cons_zero, List.set_cons_succ, i64_w, i32_w]
    rfl
  refine take_ (i := 15) (N := some 28) (v := ?_) (a' := ?_) #[true, true, true, true, true, true, true, true, true, true, true, true, true, true, true, true, false, true, false, false] rfl rfl (by kernel_rfl) (fun _ _ _ h => h) (Or.inl ⟨by rfl, ?_⟩) hHeld ?_ ?_
  rotate_left
  · rintro w' ⟨s0, s1, s2⟩
    go_simp
    with_reducible rfl
  rotate_left
  · simp only [Act.put, List.setIfInBounds_toArray, List.set_cons_zero, List.set_cons_succ, i64_w, i32_w]
    rfl
  refine pure_ (i := 16) (N := some 29) (v := ?_) (a' := ?_) #[true, true, true, true, true, true, true, true, true, true, true, true, true, true, true, true, true, true, false, false] rfl rfl (by kernel_rfl) (fun _ _ _ h => h) (Or.inl ⟨by rfl, ?_⟩) ?_ ?_
  rotate_left
  · intro w'
    go_simp
    with_reducible rfl
  rotate_left
  · simp only [Act.put, List.setIfInBounds_toArray, List.set_cons_zero, List.set_cons_succ, i64_w, i32_w]
    rfl
  refine pure_ (i := 18) (N := some 31) (v := ?_) (a' := ?_) #[true, true, true, true, true, true, true, true, true, true, true, true, true, true, true, true, true, true, true, false] rfl rfl (by kernel_rfl) (fun _ _ _ h => h) (Or.inl ⟨by rfl, ?_⟩) ?_ ?_
  rotate_left
  · intro w'
    go_simp
    with_reducible rfl
  rotate_left
  · simp only [Act.put, List.setIfInBounds_toArray, List.set_cons_zero, List.set_cons_succ, i64_w, i32_w]
    rfl
  refine pure_ (i := 19) (N := some 32) (v := ?_) (a' := ?_) #[true, true, true, true, true, true, true, true, true, true, true, true, true, true, true, true, true, true, true, true] rfl rfl (by kernel_rfl) (fun _ _ _ h => h) (Or.inl ⟨by rfl, ?_⟩) ?_ ?_
  rotate_left
  · intro w'
    go_simp
    with_reducible rfl
  rotate_left
  · simp only [Act.put, List.setIfInBounds_toArray, List.set_cons_zero, List.set_cons_succ, i64_w, i32_w]
    rfl
  refine done_ (by kernel_rfl) ?_
  obtain ⟨hx0, hx1, hx2⟩ := hHeld
  have H3 := Aside0.mk (h9.out.below HB3.out)
  have B0 : Aside0 (w3.drew.cell? ⟨W.heap.size, 0, none⟩ = some (.pointer (some ⟨b, 0, none⟩))) := ⟨hx0⟩
  have B1 : Aside0 (w3.drew.cell? ⟨b, 2, none⟩ = some (.map (some mb))) := ⟨H3.out.cells.2.2.1⟩
  have HB5 : Aside0 (Below W.heap.size W w3.drew) := ⟨below_drew1 HB3.out⟩
  go_wp2
  clear hx0 hx1 hx2
  have hbg := Aside0.mk (show W.heap.size ≤ w3.drew.heap.size from HB5.out.size)
  refine start_ (n := 10) (S := fun w' => w'.cell? ⟨W.heap.size, 0, none⟩ = some (.pointer (some ⟨b, 0, none⟩)) ∧ w'.cell? ⟨b, 2, none⟩ = some (.map (some mb))) (ds := [9]) #[false, false, false, false, false, false, false, false, false, false] (by kernel_rfl) rfl rfl ⟨B0.out, B1.out⟩ (fun hHeld => ?_)
  generalize w3.drew = W9 at *
  refine pure_ (i := 4) (N := some 41) (v := ?_) (a' := ?_) #[false, false, false, false, true, false, false, false, false, false] rfl rfl (by kernel_rfl) (fun _ _ _ h => h) (Or.inl ⟨by rfl, ?_⟩) ?_ ?_
  rotate_left
  · intro w'
    go_simp
    with_reducible rfl
  rotate_left
  · simp only [Act.put, List.setIfInBounds_toArray, List.set_cons_zero, List.set_cons_succ, i64_w, i32_w]
    rfl
  refine pure_ (i := 5) (N := some 42) (v := ?_) (a' := ?_) #[false, false, false, false, true, true, false, false, false, false] rfl rfl (by kernel_rfl) (fun _ _ _ h => h) (Or.inl ⟨by rfl, ?_⟩) ?_ ?_
  rotate_left
  · intro w'
    go_simp
    with_reducible rfl
  rotate_left
  · simp only [Act.put, List.setIfInBounds_toArray, List.set_cons_zero, List.set_cons_succ, i64_w, i32_w]
    rfl
  refine pure_ (i := 6) (N := some 43) (v := ?_) (a' := ?_) #[false, false, false, false, true, true, true, false, false, false] rfl rfl (by kernel_rfl) (fun _ _ _ h => h) (Or.inl ⟨by rfl, ?_⟩) ?_ ?_
  rotate_left
  · intro w'
    go_simp
    with_reducible rfl
  rotate_left
  · simp only [Act.put, List.setIfInBounds_toArray, List.set_cons_zero, List.set_cons_succ, i64_w, i32_w]
    rfl
  refine take_ (i := 0) (N := some 37) (v := ?_) (a' := ?_) #[true, false, false, false, true, true, true, false, false, false] rfl rfl (by kernel_rfl) (fun _ _ _ h => h) (Or.inl ⟨by rfl, ?_⟩) hHeld ?_ ?_
  rotate_left
  · rintro w' ⟨s0, s1⟩
    go_simp
    with_reducible rfl
  rotate_left
  · simp only [Act.put, List.setIfInBounds_toArray, List.set_cons_zero, List.set_cons_succ, i64_w, i32_w]
    rfl
  refine pure_ (i := 1) (N := some 38) (v := ?_) (a' := ?_) #[true, true, false, false, true, true, true, false, false, false] rfl rfl (by kernel_rfl) (fun _ _ _ h => h) (Or.inl ⟨by rfl, ?_⟩) ?_ ?_
  rotate_left
  · intro w'
    go_simp
    with_reducible rfl
  rotate_left
  · simp only [Act.put, List.setIfInBounds_toArray, List.set_cons_zero, List.set_cons_succ, i64_w, i32_w]
    rfl
  refine pure_ (i := 2) (N := some 39) (v := ?_) (a' := ?_) #[true, true, true, false, true, true, true, false, false, false] rfl rfl (by kernel_rfl) (fun _ _ _ h => h) (Or.inl ⟨by rfl, ?_⟩) ?_ ?_
  rotate_left
  · intro w'
    go_simp
    with_reducible rfl
  rotate_left
  · simp only [Act.put, List.setIfInBounds_toArray, List.set_cons_zero, List.set_cons_succ, i64_w, i32_w]
    rfl
  refine take_ (i := 3) (N := some 40) (v := ?_) (a' := ?_) #[true, true, true, true, true, true, true, false, false, false] rfl rfl (by kernel_rfl) (fun _ _ _ h => h) (Or.inl ⟨by rfl, ?_⟩) hHeld ?_ ?_
  rotate_left
  · rintro w' ⟨s0, s1⟩
    go_simp
    with_reducible rfl
  rotate_left
  · simp only [Act.put, List.setIfInBounds_toArray, List.set_cons_zero, List.set_cons_succ, i64_w, i32_w]
    rfl
  refine one_ (i := 7) (N := some 44) #[true, true, true, true, true, true, true, true, false, false] rfl rfl (by kernel_rfl) (by decide) (fun K hK => ?_)
  refine goes_ Tryd.func24 (by kernel_rfl) rfl #[.slice A ws.length c] (by rfl) rfl rfl (by simp only [List.map_toArray, List.map_cons, List.map_nil]; rfl) ?_
  (with_reducible refine (clone_calls ws (Kd.C_below hC9.out HB5.out) hl16.out).mono ?_)
  rintro e w4 ⟨v, rfl, hr, hb⟩
  refine ⟨_, rfl, ?_⟩
  obtain ⟨A2, c2, hv⟩ := Kd.R_slice hr
  subst hv
  have HB6 := Aside0.mk (below_step HB5.out hb)
  have HR := Aside0.mk hr
  refine hK.out _ _ ⟨(hb.cell (World.block_lt_of_cell? _ _ (hHeld.1))).trans (hHeld.1), (hb.cell (World.block_lt_of_cell? _ _ (hHeld.2))).trans (hHeld.2)⟩ (fun hHeld => ?_)
  clear hK K
  refine norm_ (a' := ?_) ?_ ?_
  rotate_left
  · show Act.put _ (some 44) _ = _
    simp only [Act.put, List.setIfInBounds_toArray, List.set_cons_zero, List.set_cons_succ, i64_w, i32_w]
    rfl
  refine pure_ (i := 8) (N := some 45) (v := ?_) (a' := ?_) #[true, true, true, true, true, true, true, true, true, false] rfl rfl (by kernel_rfl) (fun _ _ _ h => h) (Or.inl ⟨by rfl, ?_⟩) ?_ ?_
  rotate_left
  · intro w'
    go_simp
    with_reducible rfl
  rotate_left
  · simp only [Act.put, List.setIfInBounds_toArray, List.set_cons_zero, List.set_cons_succ, i64_w, i32_w]
    rfl
  refine last_ (i := 9) (N := none) #[true, true, true, true, true, true, true, true, true, true] rfl rfl (by kernel_rfl) (by decide) (fun K hK => ?_)
  have HW6 := h9.out.below HB6.out
  obtain ⟨W7, F7, hrun, hM7, hF1, hF2, hg7⟩ := HW6.map.store (t := 46) keyed2 Tryd.underlying46 hn.out (key2 hwu.out) (key_is used) (nodeVal (⟨tag, ws, -1⟩, .slice A2 ws.length c2))
  simp only [nodeVal] at hrun
  have hx7 := cell_grown2 hg7 hHeld.1 (bx_ne h9.out)
  clear HW6
  refine skip_ (w1 := W7) (by rfl) rfl ?_ ?_
  · go_simp
  refine hK.out _ _ ?_
  clear hK K
  refine done_ (by kernel_rfl) ?_
  have H4 := h9.out.below HB6.out
  have hfr : ∀ j, (Value.slice A2 ws.length c2).ownBlock = some j → W.heap.size ≤ j := fun j hj => Nat.le_trans hbg.out (Kd.R_base HR.out j hj)
  have H7 := H4.add hM7 hF1 hF2 hg7 (Kd.R_lower HR.out (Nat.le_trans hb0.out hbg.out)) (fun j hj => by
    have h3 := hfr j hj
    exact ⟨Nat.ne_of_gt (Nat.lt_of_lt_of_le h9.out.lt.1 h3), Nat.ne_of_gt (Nat.lt_of_lt_of_le h9.out.lt.2 h3), fun p' x' _ hx' e => by
      have := h9.out.fp_lt (.inr (.inr ⟨p', x', hx', e.symm⟩))
      omega⟩) hwu.out (show WF (-1) from ⟨by decide, by decide⟩)
  have hc7 := H7.cells.2.1
  have hf7 := H7.cells.2.2.2 1
  have H8 := Aside0.mk (H7.setUsed (used + szI ws.length))
  have HM := Aside0.mk (show Mod W (W7.setCell ⟨b, 1, none⟩ (.int .i64 (used + szI ws.length))) (fun j => j = b ∨ j = mb) from
    ((Mod.of_below HB6.out _).trans (Mod.of_grown hg7) (fun i _ hi => .inr hi)).trans (Mod.of_set _ _ _) (fun i _ hi => .inl hi))
  have HFR := Aside0.mk hfr
  clear H4 H7 hM7 hF1 hF2 hg7 hfr hrun
  go_wp2
  go_ret2
  exact ⟨rfl, _, H8.out, HM.out, HFR.out⟩
set_option maxHeartbeats 8000000 in
set_option maxRecDepth 100000 in
theorem alloc_no (h : HW W base b mb half used n f) (tag : Int) (ht : 0 ≤ tag) (ws : List S33) (hws : WFs ws) {A : Option Addr} {c : Nat} (hC : Kd.C k33 W A ws.length ws) (hl : ws.length ≤ 100000) (hbad : badB f ws = false) (hu0 : 0 ≤ used) (hu1 : used ≤ half) (hh : half ≤ 10000000) (hroom : half - used < szI ws.length) :
    Calls Tryd.prog 11 #[.pointer (some ⟨b, 0, none⟩), .int .i64 tag, .slice A ws.length c] W fun e W' => e = .returned (.tuple #[.int .i64 0, .bool false]) ∧ Below W.heap.size W W' := by
  have h9 := Aside0.mk h
  have hC9 := Aside0.mk hC
  have hws := Aside0.mk hws
  have hbad := Aside0.mk hbad
  have hl16 := Aside0.mk (show ws.length * 16 ≤ 140737488355328 by omega)
  have hwu := Aside0.mk (show WF used from ⟨by omega, by omega⟩)
  have hsz0 : 3 ≤ szI ws.length := by unfold szI mx; omega
  have c0 : decide (tag < 0) = false := decide_eq_false (by omega)
  have c1 : decide (half - used < szI ws.length) = true := decide_eq_true (by omega)
  have w1 : wrap64 (half - used) = half - used := by unfold wrap64; omega
  have CS : ∀ w, Calls Tryd.prog 20 #[.int .i64 (ws.length : Int)] w fun e w' => e = .returned (.int .i64 (szI ws.length)) ∧ Below w.heap.size w w' := fun w => size_calls (ws.length : Int) (by omega) (by omega) w
  have HB := Aside0.mk (below_alloc (Below.refl W.heap.size W) (.cells #[.pointer (some ⟨b, 0, none⟩)] 24))
  have hbx := Aside0.mk (blk_new W (.cells #[.pointer (some ⟨b, 0, none⟩)] 24 (0, 0)))
  have hq := Aside0.mk (And.intro hu0 (And.intro hu1 (And.intro hh hroom)))
  clear h hC hl hu0 hu1 hh hroom
  go_enter Tryd.func11, Tryd.ntmps11
  go_wp2_with (go_at_call 20; refine (CS _).mono ?_; rintro e w2 ⟨rfl, hb2⟩; have HB2 := Aside0.mk (below_step HB.out hb2); have hbx2 := Aside0.mk (blk_below hbx.out hb2); clear hb2)
  have H9 : Aside0 (HW w2.drew base b mb half used n f) := ⟨h9.out.below (below_drew1 HB2.out)⟩
  have HB9 : Aside0 (Below W.heap.size W w2.drew) := ⟨below_drew1 HB2.out⟩
  have A0 : Aside0 (w2.drew.cell? ⟨W.heap.size, 0, none⟩ = some (.pointer (some ⟨b, 0, none⟩))) := ⟨(blk_cell hbx2.out 0).trans rfl⟩
  have A1 : Aside0 (w2.drew.cell? ⟨b, 0, none⟩ = some (.int .i64 half)) := ⟨H9.out.cells.1⟩
  have A2 : Aside0 (w2.drew.cell? ⟨b, 1, none⟩ = some (.int .i64 used)) := ⟨H9.out.cells.2.1⟩
  refine start_ (n := 20) (S := fun w' => w'.cell? ⟨W.heap.size, 0, none⟩ = some (.pointer (some ⟨b, 0, none⟩)) ∧ w'.cell? ⟨b, 0, none⟩ = some (.int .i64 half) ∧ w'.cell? ⟨b, 1, none⟩ = some (.int .i64 used)) (ds := []) #[false, false, false, false, false, false, false, false, false, false, false, false, false, false, false, false, false, false, false, false] (by kernel_rfl) rfl rfl ⟨A0.out, A1.out, A2.out⟩ (fun hHeld => ?_)
  generalize w2.drew = W9 at *
  refine pure_ (i := 0) (N := some 13) (v := ?_) (a' := ?_) #[true, false, false, false, false, false, false, false, false, false, false, false, false, false, false, false, false, false, false, false] rfl rfl (by kernel_rfl) (fun _ _ _ h => h) (Or.inl ⟨by rfl, ?_⟩) ?_ ?_
  rotate_left
  · intro w'
    go_simp
    with_reducible rfl
  rotate_left
  · simp only [Act.put, List.setIfInBounds_toArray, List.set_cons_zero, List.set_cons_succ, i64_w, i32_w]
    rfl
  refine pure_ (i := 1) (N := some 14) (v := ?_) (a' := ?_) #[true, true, false, false, false, false, false, false, false, false, false, false, false, false, false, false, false, false, false, false] rfl rfl (by kernel_rfl) (fun _ _ _ h => h) (Or.inl ⟨by rfl, ?_⟩) ?_ ?_
  rotate_left
  · intro w'
    go_simp
    with_reducible rfl
  rotate_left
  · simp only [Act.put, List.setIfInBounds_toArray, List.set_cons_zero, List.set_cons_succ, i64_w, i32_w]
    rfl
  refine pure_ (i := 2) (N := some 15) (v := ?_) (a' := ?_) #[true, true, true, false, false, false, false, false, false, false, false, false, false, false, false, false, false, false, false, false] rfl rfl (by kernel_rfl) (fun _ _ _ h => h) (Or.inl ⟨by rfl, ?_⟩) ?_ ?_
  rotate_left
  · intro w'
    go_simp
    with_reducible rfl
  rotate_left
  · simp only [Act.put, List.setIfInBounds_toArray, List.set_cons_zero, List.set_cons_succ, i64_w, i32_w]
    rfl
  refine pure_ (i := 3) (N := some 16) (v := ?_) (a' := ?_) #[true, true, true, true, false, false, false, false, false, false, false, false, false, false, false, false, false, false, false, false] rfl rfl (by kernel_rfl) (fun _ _ _ h => h) (Or.inl ⟨by rfl, ?_⟩) ?_ ?_
  rotate_left
  · intro w'
    go_simp
    with_reducible rfl
  rotate_left
  · simp only [Act.put, List.setIfInBounds_toArray, List.set_cons_zero, List.set_cons_succ, i64_w, i32_w]
    rfl
  refine pure_ (i := 4) (N := some 17) (v := ?_) (a' := ?_) #[true, true, true, true, true, false, false, false, false, false, false, false, false, false, false, false, false, false, false, false] rfl rfl (by kernel_rfl) (fun _ _ _ h => h) (Or.inl ⟨by rfl, ?_⟩) ?_ ?_
  rotate_left
  · intro w'
    go_simp
    with_reducible rfl
  rotate_left
  · simp only [Act.put, List.setIfInBounds_toArray, List.set_cons_zero, List.set_cons_succ, i64_w, i32_w]
    rfl
  refine one_ (i := 5) (N := some 18) #[true, true, true, true, true, true, false, false, false, false, false, false, false, false, false, false, false, false, false, false] rfl rfl (by kernel_rfl) (by decide) (fun K hK => ?_)
  refine goes_ Tryd.func21 (by kernel_rfl) rfl #[.slice A ws.length c, .func (.func 22) #[] #[.pointer (some ⟨W.heap.size, 0, none⟩)]] (by rfl) rfl rfl (by simp only [List.map_toArray, List.map_cons, List.map_nil]; rfl) ?_
  (with_reducible refine (contains_no H9.out ws hws.out hbad.out (Kd.C_below hC9.out HB9.out) W.heap.size hHeld.1).mono ?_)
  rintro e w3 ⟨rfl, hb⟩
  refine ⟨_, rfl, ?_⟩
  have HB3 := Aside0.mk (below_step HB9.out hb)
  refine hK.out _ _ ⟨(hb.cell (World.block_lt_of_cell? _ _ (hHeld.1))).trans (hHeld.1), (hb.cell (World.block_lt_of_cell? _ _ (hHeld.2.1))).trans (hHeld.2.1), (hb.cell (World.block_lt_of_cell? _ _ (hHeld.2.2))).trans (hHeld.2.2)⟩ (fun hHeld => ?_)
  clear hK K
  refine norm_ (a' := ?_) ?_ ?_
  rotate_left
  · show Act.put _ (some 18) _ = _
    simp only [Act.put, List.setIfInBounds_toArray, List.set_cons_zero, List.set_cons_succ, i64_w, i32_w]
    rfl
  refine pure_ (i := 6) (N := some 19) (v := ?_) (a' := ?_) #[true, true, true, true, true, true, true, false, false, false, false, false, false, false, false, false, false, false, false, false] rfl rfl (by kernel_rfl) (fun _ _ _ h => h) (Or.inl ⟨by rfl, ?_⟩) ?_ ?_
  rotate_left
  · intro w'
    go_simp
    with_reducible rfl
  rotate_left
  · simp only [Act.put, List.setIfInBounds_toArray, List.set_cons_zero, List.set_cons_succ, i64_w, i32_w]
    rfl
  refine pure_ (i := 7) (N := some 20) (v := ?_) (a' := ?_) #[true, true, true, true, true, true, true, true, false, false, false, false, false, false, false, false, false, false, false, false] rfl rfl (by kernel_rfl) (fun _ _ _ h => h) (Or.inl ⟨by rfl, ?_⟩) ?_ ?_
  rotate_left
  · intro w'
    go_simp
    with_reducible rfl
  rotate_left
  · simp only [Act.put, List.setIfInBounds_toArray, List.set_cons_zero, List.set_cons_succ, i64_w, i32_w]
    rfl
  refine pure_ (i := 17) (N := some 30) (v := ?_) (a' := ?_) #[true, true, true, true, true, true, true, true, false, false, false, false, false, false, false, false, false, true, false, false] rfl rfl (by kernel_rfl) (fun _ _ _ h => h) (Or.inl ⟨by rfl, ?_⟩) ?_ ?_
  rotate_left
  · intro w'
    go_simp
    with_reducible rfl
  rotate_left
  · simp only [Act.put, List.setIfInBounds_toArray, List.set_cons_zero, List.set_cons_succ, i64_w, i32_w]
    rfl
  refine take_ (i := 8) (N := some 21) (v := ?_) (a' := ?_) #[true, true, true, true, true, true, true, true, true, false, false, false, false, false, false, false, false, true, false, false] rfl rfl (by kernel_rfl) (fun _ _ _ h => h) (Or.inl ⟨by rfl, ?_⟩) hHeld ?_ ?_
  rotate_left
  · rintro w' ⟨s0, s1, s2⟩
    go_simp
    with_reducible rfl
  rotate_left
  · simp only [Act.put, List.setIfInBounds_toArray, List.set_cons_zero, List.set_cons_succ, i64_w, i32_w]
    rfl
  refine pure_ (i := 9) (N := some 22) (v := ?_) (a' := ?_) #[true, true, true, true, true, true, true, true, true, true, false, false, false, false, false, false, false, true, false, false] rfl rfl (by kernel_rfl) (fun _ _ _ h => h) (Or.inl ⟨by rfl, ?_⟩) ?_ ?_
  rotate_left
  · intro w'
    go_simp
    with_reducible rfl
  rotate_left
  · simp only [Act.put, List.setIfInBounds_toArray, List.set_cons_zero, List.set_cons_succ, i64_w, i32_w]
    rfl
  refine pure_ (i := 10) (N := some 23) (v := ?_) (a' := ?_) #[true, true, true, true, true, true, true, true, true, true, true, false, false, false, false, false, false, true, false, false] rfl rfl (by kernel_rfl) (fun _ _ _ h => h) (Or.inl ⟨by rfl, ?_⟩) ?_ ?_
  rotate_left
  · intro w'
    go_simp
    with_reducible rfl
  rotate_left
  · simp only [Act.put, List.setIfInBounds_toArray, List.set_cons_zero, List.set_cons_succ, i64_w, i32_w]
    rfl
  refine take_ (i := 11) (N := some 24) (v := ?_) (a' := ?_) #[true, true, true, true, true, true, true, true, true, true, true, true, false, false, false, false, false, true, false, false] rfl rfl (by kernel_rfl) (fun _ _ _ h => h) (Or.inl ⟨by rfl, ?_⟩) hHeld ?_ ?_
  rotate_left
  · rintro w' ⟨s0, s1, s2⟩
    go_simp
    with_reducible rfl
  rotate_left
  · simp only [Act.put, List.setIfInBounds_toArray, List.set_cons_zero, List.set_cons_succ, i64_w, i32_w]
    rfl
  refine take_ (i := 12) (N := some 25) (v := ?_) (a' := ?_) #[true, true, true, true, true, true, true, true, true, true, true, true, true, false, false, false, false, true, false, false] rfl rfl (by kernel_rfl) (fun _ _ _ h => h) (Or.inl ⟨by rfl, ?_⟩) hHeld ?_ ?_
  rotate_left
  · rintro w' ⟨s0, s1, s2⟩
    go_simp
    with_reducible rfl
  rotate_left
  · simp only [Act.put, List.setIfInBounds_toArray, List.set_cons_zero, List.set_cons_succ, i64_w, i32_w]
    rfl
  refine pure_ (i := 13) (N := some 26) (v := ?_) (a' := ?_) #[true, true, true, true, true, true, true, true, true, true, true, true, true, true, false, false, false, true, false, false] rfl rfl (by kernel_rfl) (fun _ _ _ h => h) (Or.inl ⟨by rfl, ?_⟩) ?_ ?_
  rotate_left
  · intro w'
    go_simp
    with_reducible rfl
  rotate_left
  · simp only [Act.put, List.setIfInBounds_toArray, List.set_cons_zero, List.set_cons_succ, i64_w, i32_w]
    rfl
  refine pure_ (i := 14) (N := some 27) (v := ?_) (a' := ?_) #[true, true, true, true, true, true, true, true, true, true, true, true, true, true, true, false, false, true, false, false] rfl rfl (by kernel_rfl) (fun _ _ _ h => h) (Or.inl ⟨by rfl, ?_⟩) ?_ ?_
  rotate_left
  · intro w'
    go_simp
    with_reducible rfl
  rotate_left
  · simp only [Act.put, List.setIfInBounds_toArray, List.set_cons_zero, List.set_cons_succ, i64_w, i32_w]
    rfl
  refine take_ (i := 15) (N := some 28) (v := ?_) (a' := ?_) #[true, true, true, true, true, true, true, true, true, true, true, true, true, true, true, true, false, true, false, false] rfl rfl (by kernel_rfl) (fun _ _ _ h => h) (Or.inl ⟨by rfl, ?_⟩) hHeld ?_ ?_
  rotate_left
  · rintro w' ⟨s0, s1, s2⟩
    go_simp
    with_reducible rfl
  rotate_left
  · simp only [Act.put, List.setIfInBounds_toArray, List.set_cons_zero, List.set_cons_succ, i64_w, i32_w]
    rfl
  refine pure_ (i := 16) (N := some 29) (v := ?_) (a' := ?_) #[true, true, true, true, true, true, true, true, true, true, true, true, true, true, true, true, true, true, false, false] rfl rfl (by kernel_rfl) (fun _ _ _ h => h) (Or.inl ⟨by rfl, ?_⟩) ?_ ?_
  rotate_left
  · intro w'
    go_simp
    with_reducible rfl
  rotate_left
  · simp only [Act.put, List.setIfInBounds_toArray, List.set_cons_zero, List.set_cons_succ, i64_w, i32_w]
    rfl
  refine pure_ (i := 18) (N := some 31) (v := ?_) (a' := ?_) #[true, true, true, true, true, true, true, true, true, true, true, true, true, true, true, true, true, true, true, false] rfl rfl (by kernel_rfl) (fun _ _ _ h => h) (Or.inl ⟨by rfl, ?_⟩) ?_ ?_
  rotate_left
  · intro w'
    go_simp
    with_reducible rfl
  rotate_left
  · simp only [Act.put, List.setIfInBounds_toArray, List.set_cons_zero, List.set_cons_succ, i64_w, i32_w]
    rfl
  refine pure_ (i := 19) (N := some 32) (v := ?_) (a' := ?_) #[true, true, true, true, true, true, true, true, true, true, true, true, true, true, true, true, true, true, true, true] rfl rfl (by kernel_rfl) (fun _ _ _ h => h) (Or.inl ⟨by rfl, ?_⟩) ?_ ?_
  rotate_left
  · intro w'
    go_simp
    with_reducible rfl
  rotate_left
  · simp only [Act.put, List.setIfInBounds_toArray, List.set_cons_zero, List.set_cons_succ, i64_w, i32_w]
    rfl
  refine done_ (by kernel_rfl) ?_
  clear hHeld
  go_wp2
  go_ret2
  exact ⟨rfl, HB3.out⟩
end
end Go.Proofs.YtepaddjjdhpmpaaDoor.HeapA
