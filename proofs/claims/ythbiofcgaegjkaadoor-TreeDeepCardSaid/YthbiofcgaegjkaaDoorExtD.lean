/- gristmillsee.Fault, Same at errors with a place; what TreeDeep asks of the package-level variables. No other condition. -/
import Derived.Test.YthbiofcgaegjkaaDoorExtQ
import Derived.Test.YthbiofcgaegjkaaDoorPTreeSx1
namespace Go.Proofs.YthbiofcgaegjkaaDoor.ExtD
open Go.RowKit Go.Proofs.YthbiofcgaegjkaaDoorW.PrintWords Go.Proofs.YthbiofcgaegjkaaDoorW.PrintLast Go.Proofs.YthbiofcgaegjkaaDoor.PTreeS Go.Proofs.YthbiofcgaegjkaaDoor.ExtE
set_option linter.unusedVariables false
set_option linter.unusedSimpArgs false
variable {ad adf : Int → Addr}
theorem placed_f (m : Nat) (p : Int) : gristmillref_Placed.f (101 + (m : Int)) p = some (101 + (m : Int), true, p) := by
  unfold gristmillref_Placed.f
  rw [if_neg (by omega)]
theorem isAt (v : Value) (W : World) : (Instr.typeAssert (.iface 47 v) 25 47 true).run Tryd.prog W = .ok (.tuple #[v, .bool true]) W := by rfl
set_option maxHeartbeats 8000000 in
set_option maxRecDepth 100000 in
theorem fault_at (m : Nat) (hm : m < 18) (b : Nat) (p : Int) (w : World) (hS : See.GS ad w) (h0 : w.cell? ⟨b, 0, none⟩ = some (.int .i64 p)) (h1 : w.cell? ⟨b, 1, none⟩ = some (.iface 74 (.pointer (some (ad (101 + (m : Int))))))) :
    Calls Tryd.prog 17 #[.iface 47 (.pointer (some ⟨b, 0, none⟩))] w fun e w' => e = .returned (.agg #[.int .i64 (101 + (m : Int)), .bool true, .int .i64 p]) ∧ Below w.heap.size w w' := by
  have huF := Tryd.underlying33
  have hta := isAt
  have HB := Aside0.mk (Below.refl w.heap.size w)
  have H0 := Aside0.mk h0
  have H1 := Aside0.mk h1
  clear h0 h1
  go_enter Tryd.func17, Tryd.ntmps17
  go_wp2_with (first | ((with_reducible refine gate_dst (N := 2) rfl ?_); refine box_event ?hg (N := 2) ?hd (cs := #[.int .i64 0, .bool false, .int .i64 0]) (t := 33) ?hr ?_; (case hd => rfl); (case hg => rfl); (case hr => first | (go_simp; done) | (go_simp; rfl)); intro gb hg w2 hbox hb; have n0_ := Aside0.mk (below_step (by repeat (first | (with_reducible first | exact HB.out | apply below_alloc | apply pw_below_drewN | apply below_drew1) | exact HB.out)) hb); have n1_ := Aside0.mk (hbox); have n2_ := Aside0.mk ((by rw [hg]; exact (below_size (by repeat (first | (with_reducible first | exact HB.out | apply below_alloc | apply pw_below_drewN | apply below_drew1) | exact HB.out))) : w.heap.size ≤ gb)); clear HB; have HB := n0_; have BK := n1_; have GE := n2_; clear n0_ n1_ n2_; have hq0 := (hb.cell (World.block_lt_of_cell? _ _ H0.out)).trans H0.out; have hq1 := (hb.cell (World.block_lt_of_cell? _ _ H1.out)).trans H1.out; clear hb hbox hg; have hca0 : w2.cell? ⟨gb, 0, none⟩ = some (.int .i64 0) := (blk_cell BK.out 0).trans rfl; have hca1 : w2.cell? ⟨gb, 1, none⟩ = some (.bool false) := (blk_cell BK.out 1).trans rfl; have hca2 : w2.cell? ⟨gb, 2, none⟩ = some (.int .i64 0) := (blk_cell BK.out 2).trans rfl; have hfa0 := blk_frozen BK.out 0; have hfa1 := blk_frozen BK.out 1; have hfa2 := blk_frozen BK.out 2))
  have HB9 : Aside0 (Below w.heap.size w w2.drew) := ⟨below_drew1 HB.out⟩
  have BK9 : Aside0 (w2.drew.heap[gb]? = some (.cells #[.int .i64 0, .bool false, .int .i64 0] 33 (0, 0))) := ⟨BK.out⟩
  have A0 : Aside0 (w2.drew.cell? ⟨b, 0, none⟩ = some (.int .i64 p)) := ⟨hq0⟩
  have A1 : Aside0 (w2.drew.cell? ⟨b, 1, none⟩ = some (.iface 74 (.pointer (some (ad (101 + (m : Int))))))) := ⟨hq1⟩
  clear hca0 hca1 hca2 hfa0 hfa1 hfa2 hq0 hq1 HB BK
  refine start_ (n := 11) (S := fun w' => w'.cell? ⟨b, 0, none⟩ = some (.int .i64 p) ∧ w'.cell? ⟨b, 1, none⟩ = some (.iface 74 (.pointer (some (ad (101 + (m : Int))))))) (ds := [9, 10]) #[false, false, false, false, false, false, false, false, false, false, false] (by kernel_rfl) rfl rfl ⟨A0.out, A1.out⟩ (fun hHeld => ?_)
  generalize w2.drew = W9 at *
  refine pure_ (i := 0) (N := some 28) (v := ?_) (a' := ?_) #[true, false, false, false, false, false, false, false, false, false, false] rfl rfl (by kernel_rfl) (fun _ _ _ h => h) (Or.inl ⟨by rfl, ?_⟩) ?_ ?_
  rotate_left
  · intro w'
    go_simp
    with_reducible rfl
  rotate_left
  · simp only [Act.put, List.setIfInBounds_toArray, List.set_cons_zero, List.set_cons_succ, i64_w, i32_w]
    rfl
  refine pure_ (i := 1) (N := some 29) (v := ?_) (a' := ?_) #[true, true, false, false, false, false, false, false, false, false, false] rfl rfl (by kernel_rfl) (fun _ _ _ h => h) (Or.inl ⟨by rfl, ?_⟩) ?_ ?_
  rotate_left
  · intro w'
    go_simp
    with_reducible rfl
  rotate_left
  · simp only [Act.put, List.setIfInBounds_toArray, List.set_cons_zero, List.set_cons_succ, i64_w, i32_w]
    rfl
  refine pure_ (i := 2) (N := some 30) (v := ?_) (a' := ?_) #[true, true, true, false, false, false, false, false, false, false, false] rfl rfl (by kernel_rfl) (fun _ _ _ h => h) (Or.inl ⟨by rfl, ?_⟩) ?_ ?_
  rotate_left
  · intro w'
    go_simp
    with_reducible rfl
  rotate_left
  · simp only [Act.put, List.setIfInBounds_toArray, List.set_cons_zero, List.set_cons_succ, i64_w, i32_w]
    rfl
  refine pure_ (i := 5) (N := some 33) (v := ?_) (a' := ?_) #[true, true, true, false, false, true, false, false, false, false, false] rfl rfl (by kernel_rfl) (fun _ _ _ h => h) (Or.inl ⟨by rfl, ?_⟩) ?_ ?_
  rotate_left
  · intro w'
    go_simp
    with_reducible rfl
  rotate_left
  · simp only [Act.put, List.setIfInBounds_toArray, List.set_cons_zero, List.set_cons_succ, i64_w, i32_w]
    rfl
  refine pure_ (i := 6) (N := some 34) (v := ?_) (a' := ?_) #[true, true, true, false, false, true, true, false, false, false, false] rfl rfl (by kernel_rfl) (fun _ _ _ h => h) (Or.inl ⟨by rfl, ?_⟩) ?_ ?_
  rotate_left
  · intro w'
    go_simp
    with_reducible rfl
  rotate_left
  · simp only [Act.put, List.setIfInBounds_toArray, List.set_cons_zero, List.set_cons_succ, i64_w, i32_w]
    rfl
  refine pure_ (i := 7) (N := some 35) (v := ?_) (a' := ?_) #[true, true, true, false, false, true, true, true, false, false, false] rfl rfl (by kernel_rfl) (fun _ _ _ h => h) (Or.inl ⟨by rfl, ?_⟩) ?_ ?_
  rotate_left
  · intro w'
    go_simp
    with_reducible rfl
  rotate_left
  · simp only [Act.put, List.setIfInBounds_toArray, List.set_cons_zero, List.set_cons_succ, i64_w, i32_w]
    rfl
  refine take_ (i := 3) (N := some 31) (v := ?_) (a' := ?_) #[true, true, true, true, false, true, true, true, false, false, false] rfl rfl (by kernel_rfl) (fun _ _ _ h => h) (Or.inl ⟨by rfl, ?_⟩) hHeld ?_ ?_
  rotate_left
  · rintro w' ⟨s0, s1⟩
    go_simp
    with_reducible rfl
  rotate_left
  · simp only [Act.put, List.setIfInBounds_toArray, List.set_cons_zero, List.set_cons_succ, i64_w, i32_w]
    rfl
  refine take_ (i := 8) (N := some 36) (v := ?_) (a' := ?_) #[true, true, true, true, false, true, true, true, true, false, false] rfl rfl (by kernel_rfl) (fun _ _ _ h => h) (Or.inl ⟨by rfl, ?_⟩) hHeld ?_ ?_
  rotate_left
  · rintro w' ⟨s0, s1⟩
    go_simp
    with_reducible rfl
  rotate_left
  · simp only [Act.put, List.setIfInBounds_toArray, List.set_cons_zero, List.set_cons_succ, i64_w, i32_w]
    rfl
  refine one_ (i := 4) (N := some 32) #[true, true, true, true, true, true, true, true, true, false, false] rfl rfl (by kernel_rfl) (by decide) (fun K hK => ?_)
  refine goes_ Tryd.func26 (by kernel_rfl) rfl #[.iface 74 (.pointer (some (ad (101 + (m : Int)))))] (by rfl) rfl rfl (by simp only [List.map_toArray, List.map_cons, List.map_nil]; rfl) ?_
  (with_reducible refine (See.sentinel_calls m hm _ (hS.below HB9.out)).mono ?_)
  rintro e w3 ⟨rfl, hb⟩
  refine ⟨_, rfl, ?_⟩
  have HB3 := Aside0.mk (below_step HB9.out hb)
  have BK3 := Aside0.mk (blk_below BK9.out hb)
  refine hK.out _ _ ⟨(hb.cell (World.block_lt_of_cell? _ _ hHeld.1)).trans hHeld.1, (hb.cell (World.block_lt_of_cell? _ _ hHeld.2)).trans hHeld.2⟩ (fun hHeld => ?_)
  clear hK K
  refine norm_ (a' := ?_) ?_ ?_
  rotate_left
  · show Act.put _ (some 32) _ = _
    simp only [Act.put, List.setIfInBounds_toArray, List.set_cons_zero, List.set_cons_succ, i64_w, i32_w]
    rfl
  refine last_ (i := 9) (N := some 37) #[true, true, true, true, true, true, true, true, true, true, false] rfl rfl (by kernel_rfl) (by decide) (fun K hK => ?_)
  refine goes_ Tryd.func11 (by kernel_rfl) rfl #[.int .i64 (101 + (m : Int)), .int .i64 p] (by rfl) rfl rfl (by simp only [List.map_toArray, List.map_cons, List.map_nil]; rfl) ?_
  (with_reducible refine (gristmillref_Placed.calls (101 + (m : Int)) p (101 + (m : Int)) true p _ (placed_f m p)).mono ?_)
  rintro e w4 ⟨rfl, hb2⟩
  refine ⟨_, rfl, ?_⟩
  have HB4 := Aside0.mk (below_step HB3.out hb2)
  have BK4 := Aside0.mk (blk_below BK3.out hb2)
  clear hb2
  refine hK.out _ _ ?_
  clear hK K
  refine norm_ (a' := ?_) ?_ ?_
  rotate_left
  · show Act.put _ (some 37) _ = _
    simp only [Act.put, List.setIfInBounds_toArray, List.set_cons_zero, List.set_cons_succ, i64_w, i32_w]
    rfl
  refine last_ (i := 10) (N := none) #[true, true, true, true, true, true, true, true, true, true, true] rfl rfl (by kernel_rfl) (by decide) (fun K hK => ?_)
  have hc0 := (blk_cell BK4.out 0).trans rfl
  have hc1 := (blk_cell BK4.out 1).trans rfl
  have hc2 := (blk_cell BK4.out 2).trans rfl
  have hf0 := blk_frozen BK4.out 0
  have hf1 := blk_frozen BK4.out 1
  have hf2 := blk_frozen BK4.out 2
  refine skip_ (w1 := ?_) (by rfl) rfl ?_ ?_
  rotate_left
  · go_simp
    rfl
  refine hK.out _ _ ?_
  clear hK K
  refine done_ (by kernel_rfl) ?_
  go_wp2
  refine bodyPost_ret (results_cell_row rfl _ _ gb 33 #[.int .i64 (101 + (m : Int)), .bool true, .int .i64 p] (0, 0) _ rfl (by refine blk_put (cs := #[.int .i64 (101 + (m : Int)), .bool true, .int .i64 0]) ?_ 2 _ rfl; refine blk_put (cs := #[.int .i64 (101 + (m : Int)), .bool false, .int .i64 0]) ?_ 1 _ rfl; refine blk_put (cs := #[.int .i64 0, .bool false, .int .i64 0]) ?_ 0 _ rfl; exact BK4.out) Tryd.underlying33 rfl (by kernel_rfl)) rfl ?_
  exact ⟨rfl, by repeat (first | (with_reducible first | exact HB4.out | apply below_alloc | apply pw_below_drewN | apply below_drew1 | refine below_set ?_ GE.out) | exact HB4.out)⟩
set_option maxHeartbeats 8000000 in
set_option maxRecDepth 100000 in
theorem same_any (x : Option Int) (f1 : Int) (f2 : Bool) (f3 : Int) (c : Int) (d : Bool) (q : Int) (r : Bool) (w : World) (hF : ∀ W, Below w.heap.size w W → Calls Tryd.prog 17 #[errW adf x] W fun e w' => e = .returned (.agg #[.int .i64 f1, .bool f2, .int .i64 f3]) ∧ Below W.heap.size W w') (h : gristmillref_SameFault.f f1 f2 f3 c d q = some r) :
    Calls Tryd.prog 10 #[errW adf x, .agg #[.int .i64 c, .bool d, .int .i64 q]] w fun e w' => e = .returned (.bool r) ∧ Below w.heap.size w w' := by
  have huF := Tryd.underlying33
  have HB9 : Aside0 (Below w.heap.size w (w.alloc (.cells #[.int .i64 c, .bool d, .int .i64 q] 33)).drew) := ⟨below_drew1 (below_alloc (Below.refl _ _) _)⟩
  have hbk := blk_new w (.cells #[.int .i64 c, .bool d, .int .i64 q] 33 (0, 0))
  have A0 : Aside0 ((w.alloc (.cells #[.int .i64 c, .bool d, .int .i64 q] 33)).drew.cell? ⟨w.heap.size, 0, none⟩ = some (.int .i64 c)) := ⟨(blk_cell hbk 0).trans rfl⟩
  have A1 : Aside0 ((w.alloc (.cells #[.int .i64 c, .bool d, .int .i64 q] 33)).drew.cell? ⟨w.heap.size, 1, none⟩ = some (.bool d)) := ⟨(blk_cell hbk 1).trans rfl⟩
  have A2 : Aside0 ((w.alloc (.cells #[.int .i64 c, .bool d, .int .i64 q] 33)).drew.cell? ⟨w.heap.size, 2, none⟩ = some (.int .i64 q)) := ⟨(blk_cell hbk 2).trans rfl⟩
  clear hbk
  go_enter Tryd.func10, Tryd.ntmps10
  go_wp2
  refine start_ (n := 5) (S := fun w' => w'.cell? ⟨w.heap.size, 0, none⟩ = some (.int .i64 c) ∧ w'.cell? ⟨w.heap.size, 1, none⟩ = some (.bool d) ∧ w'.cell? ⟨w.heap.size, 2, none⟩ = some (.int .i64 q)) (ds := [3]) #[false, false, false, false, false] (by kernel_rfl) rfl rfl ⟨A0.out, A1.out, A2.out⟩ (fun hHeld => ?_)
  generalize (w.alloc (.cells #[.int .i64 c, .bool d, .int .i64 q] 33)).drew = W9 at *
  refine pure_ (i := 0) (N := some 5) (v := ?_) (a' := ?_) #[true, false, false, false, false] rfl rfl (by kernel_rfl) (fun _ _ _ h => h) (Or.inl ⟨by rfl, ?_⟩) ?_ ?_
  rotate_left
  · intro w'
    go_simp
    with_reducible rfl
  rotate_left
  · simp only [Act.put, List.setIfInBounds_toArray, List.set_cons_zero, List.set_cons_succ, i64_w, i32_w]
    rfl
  refine take_ (i := 2) (N := some 7) (v := ?_) (a' := ?_) #[true, false, true, false, false] rfl rfl (by kernel_rfl) (fun _ _ _ h => h) (Or.inl ⟨by rfl, ?_⟩) hHeld ?_ ?_
  rotate_left
  · rintro w' ⟨s0, s1, s2⟩
    go_simp
    with_reducible rfl
  rotate_left
  · simp only [Act.put, List.setIfInBounds_toArray, List.set_cons_zero, List.set_cons_succ, i64_w, i32_w]
    rfl
  refine one_ (i := 1) (N := some 6) #[true, true, true, false, false] rfl rfl (by kernel_rfl) (by decide) (fun K hK => ?_)
  refine goes_ Tryd.func17 (by kernel_rfl) rfl #[errW adf x] (by rfl) rfl rfl (by simp only [List.map_toArray, List.map_cons, List.map_nil]; rfl) ?_
  (with_reducible refine (hF _ HB9.out).mono ?_)
  rintro e w3 ⟨rfl, hb⟩
  refine ⟨_, rfl, ?_⟩
  have HB3 := Aside0.mk (below_step HB9.out hb)
  refine hK.out _ _ ⟨(hb.cell (World.block_lt_of_cell? _ _ (hHeld.1))).trans (hHeld.1), (hb.cell (World.block_lt_of_cell? _ _ (hHeld.2.1))).trans (hHeld.2.1), (hb.cell (World.block_lt_of_cell? _ _ (hHeld.2.2))).trans (hHeld.2.2)⟩ (fun hHeld => ?_)
  clear hK K
  refine norm_ (a' := ?_) ?_ ?_
  rotate_left
  · show Act.put _ (some 6) _ = _
    simp only [Act.put, List.setIfInBounds_toArray, List.set_cons_zero, List.set_cons_succ, i64_w, i32_w]
    rfl
  refine last_ (i := 3) (N := some 8) #[true, true, true, true, false] rfl rfl (by kernel_rfl) (by decide) (fun K hK => ?_)
  refine goes_ Tryd.func16 (by kernel_rfl) rfl #[.agg #[.int .i64 f1, .bool f2, .int .i64 f3], .agg #[.int .i64 c, .bool d, .int .i64 q]] (by rfl) rfl rfl (by simp only [List.map_toArray, List.map_cons, List.map_nil]; rfl) ?_
  (with_reducible refine (gristmillref_SameFault.calls f1 f2 f3 c d q r _ h).mono ?_)
  rintro e w4 ⟨rfl, hb2⟩
  refine ⟨_, rfl, ?_⟩
  have HB4 := Aside0.mk (below_step HB3.out hb2)
  clear hb2
  refine hK.out _ _ ?_
  clear hK K
  refine norm_ (a' := ?_) ?_ ?_
  rotate_left
  · show Act.put _ (some 8) _ = _
    simp only [Act.put, List.setIfInBounds_toArray, List.set_cons_zero, List.set_cons_succ, i64_w, i32_w]
    rfl
  refine pure_ (i := 4) (N := some 4) (v := ?_) (a' := ?_) #[true, true, true, true, true] rfl rfl (by kernel_rfl) (fun _ _ _ h => h) (Or.inl ⟨by rfl, ?_⟩) ?_ ?_
  rotate_left
  · intro w'
    go_simp
    with_reducible rfl
  rotate_left
  · simp only [Act.put, List.setIfInBounds_toArray, List.set_cons_zero, List.set_cons_succ, i64_w, i32_w]
    rfl
  refine done_ (by kernel_rfl) ?_
  go_wp2
  go_ret
  exact ⟨rfl, HB4.out⟩
structure GD (ad : Int → Addr) (w : World) : Prop where
  s : See.GS ad w
theorem GD.below {w W : World} (h : GD ad w) (hb : Below w.heap.size w W) : GD ad W := ⟨h.s.below hb⟩
theorem GD.drewN {w : World} (h : GD ad w) (n : Nat) : GD ad (w.drewN n) := h.below ⟨rfl, rfl, rfl, Nat.le_refl _, fun _ _ => rfl⟩
theorem AtOk.below {w W : World} {x : Option Int} (h : AtOk ad adf w x) (hb : Below w.heap.size w W) : AtOk ad adf W x := by
  cases h with
  | old h hr => exact .old h hr
  | made p k h hk h0 h1 ho => exact .made p k h hk ((hb.cell (World.block_lt_of_cell? _ _ h0)).trans h0) ((hb.cell (World.block_lt_of_cell? _ _ h1)).trans h1) ho
theorem AtOk.alloc {w : World} {x : Option Int} {o : Obj} (h : AtOk ad adf w x) : AtOk ad adf (w.alloc o) x := AtOk.below h (below_alloc (Below.refl _ _) _)
theorem AtOk.drew {w : World} {x : Option Int} (h : AtOk ad adf w x) : AtOk ad adf w.drew x := AtOk.below h (below_drew1 (Below.refl _ _))
theorem AtOk.drewN {w : World} {x : Option Int} {n : Nat} (h : AtOk ad adf w x) : AtOk ad adf (w.drewN n) x := AtOk.below h ⟨rfl, rfl, rfl, Nat.le_refl _, fun _ _ => rfl⟩
def gristmillsee_Same.f (x : Option Int) (c : Int) (d : Bool) (q : Int) : Option Bool := match x with
  | none => gristmillref_SameFault.f 0 false 0 c d q
  | some z => if 101 ≤ z ∧ z ≤ 118 then gristmillref_SameFault.f z false 0 c d q else if 601 ≤ z % 1000 ∧ z % 1000 ≤ 618 then gristmillref_SameFault.f (z % 1000 - 500) true (z / 1000) c d q else none
theorem gristmillsee_Same.calls (x : Option Int) (c : Int) (d : Bool) (q : Int) (r : Bool) (w : World) (hGG : GD ad w) (hat : AtOk ad adf w x) (h : gristmillsee_Same.f x c d q = some r) :
    Calls Tryd.prog 10 #[errW adf x, .agg #[.int .i64 c, .bool d, .int .i64 q]] w fun e w' => e = .returned (.bool r) ∧ Below w.heap.size w w' := by
  cases x with
  | none => exact same_any none 0 false 0 c d q r w (fun W hb => See.fault_none W) h
  | some z =>
    have h : (if 101 ≤ z ∧ z ≤ 118 then gristmillref_SameFault.f z false 0 c d q else if 601 ≤ z % 1000 ∧ z % 1000 ≤ 618 then gristmillref_SameFault.f (z % 1000 - 500) true (z / 1000) c d q else none) = some r := h
    by_cases h1 : 101 ≤ z ∧ z ≤ 118
    · rw [if_pos h1] at h
      cases hat with
      | made p k e hk => injection e with e; omega
      | old e hr =>
        subst e
        obtain ⟨m, rfl⟩ : ∃ m : Nat, z = 101 + (m : Int) := ⟨(z - 101).toNat, by omega⟩
        refine same_any _ _ _ _ c d q r w (fun W hb => ?_) h
        rw [ExtE.errW_some, ety, if_pos (by omega)]
        exact See.fault_some m (by omega) W (hGG.s.below hb)
    · rw [if_neg h1] at h
      by_cases h2 : 601 ≤ z % 1000 ∧ z % 1000 ≤ 618
      · rw [if_pos h2] at h
        cases hat with
        | old e hr => have := hr z rfl; omega
        | made p k e hk g0 g1 ho =>
          injection e with e
          obtain ⟨m, rfl⟩ : ∃ m : Nat, k = 101 + (m : Int) := ⟨(k - 101).toNat, by omega⟩
          rw [← e] at g0 g1 ho
          rw [show z % 1000 - 500 = 101 + (m : Int) by omega, show z / 1000 = p by omega] at h
          refine same_any _ _ _ _ c d q r w (fun W hb => ?_) h
          rw [ExtE.errW_some, ety, if_neg (by omega), ho]
          exact fault_at m (by omega) _ p W (hGG.s.below hb) ((hb.cell (World.block_lt_of_cell? _ _ g0)).trans g0) ((hb.cell (World.block_lt_of_cell? _ _ g1)).trans g1)
      · rw [if_neg h2] at h
        cases h
theorem tree_ParseD.calls (k : Nat) (a0 : ByteArray) (r1 : List PTreeA.S39) (r2 : Option Int) (w : World) (hGG : GD ad w) (h : tree_Parse.f k a0 = some (r1, r2)) :
    Calls Tryd.prog 7 #[.string a0] w fun e w' => ∃ v0 : Value, ∃ adf : Int → Addr, e = .returned (.tuple #[v0, errW adf r2]) ∧ Kd.R PTreeA.k39 39 w' w.heap.size (fun _ => True) v0 r1 ∧ Below w.heap.size w w' := tree_Parse.calls k a0 r1 r2 w (.of_s hGG.s) h
theorem tree_ParseA.calls (k : Nat) (a0 : ByteArray) (r1 : List PTreeA.S39) (r2 : Option Int) (w : World) (hGG : GD ad w) (h : tree_Parse.f k a0 = some (r1, r2)) :
    Calls Tryd.prog 7 #[.string a0] w fun e w' => ∃ v0 : Value, ∃ adf : Int → Addr, e = .returned (.tuple #[v0, errW adf r2]) ∧ Kd.R PTreeA.k39 39 w' w.heap.size (fun _ => True) v0 r1 ∧ AtOk ad adf w' r2 ∧ Below w.heap.size w w' := tree_Parse.callsA k a0 r1 r2 w (.of_s hGG.s) h
end Go.Proofs.YthbiofcgaegjkaaDoor.ExtD
