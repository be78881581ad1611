/- maps.Clone, (*Heap).Clone. No condition beyond those that each states. -/
import Derived.Test.YtepaddjjdhpmpaaDoorHeapM
import Derived.Shelf.SlMaps.Clone
namespace Go.Proofs.YtepaddjjdhpmpaaDoor.HeapA
open Go.RowKit Go.Proofs.YtepaddjjdhpmpaaDoorW.PrintWords Go.Proofs.YtepaddjjdhpmpaaDoorW.PrintLast Go.Proofs.YtepaddjjdhpmpaaDoorW.PrintMore Go.Proofs.YtepaddjjdhpmpaaDoor.HeapK Go.Proofs.YtepaddjjdhpmpaaDoor.PHeapP
open Go.Maps (Keyed has IsMap)
set_option linter.unusedVariables false
set_option linter.unusedSimpArgs false
section
variable {W W1 : World} {base b mb n : Nat} {half used : Int} {f : NM} {F : Lit → Option Value}
set_option maxHeartbeats 2000000 in
theorem mapclone_calls (h : MapF W Tryd.prog 2 mb n F) :
    Calls Tryd.prog 28 #[.map (some mb)] W fun e w' => e = .returned (.map (some W.heap.size)) ∧ MapF w' Tryd.prog 2 W.heap.size n F ∧ Below W.heap.size W w' := by
  have h9 := Aside0.mk h
  obtain ⟨D, ⟨es, clock, hb, hF, hs, hD⟩, hm, hDk⟩ := h
  have hfin : Aside0 (MapF (W.alloc (.map es clock)) Tryd.prog 2 W.heap.size n F) := ⟨⟨D, ⟨es, clock, blk_new W _, hF, hs, hD⟩, hm, hDk⟩⟩
  have hq := fun w => run_eql_map_nil_sl (P := Tryd.prog) w 46 _ _ (some mb) Tryd.underlying46
  clear hF hs hD hm hDk
  go_enter Tryd.func28, Tryd.ntmps28
  go_wp2
  rw [run_callFunc_extern Tryd.func30 (by kernel_rfl) (by kernel_rfl) (by kernel_rfl) (e := Extern.MapsClone.clone) (by kernel_rfl), run_maps_clone_sl W 46 hb]
  simp only [Result.andThen]
  rw [Oper.upon_value]
  go_wp2
  rw [run_typeAssert_map_sl _ 46 20 _ _ _ Tryd.underlying46]
  simp only [Result.andThen]
  rw [Oper.upon_value]
  go_wp2
  go_ret
  exact ⟨rfl, hfin.out, below_alloc (Below.refl _ _) _⟩
/-- The copy while its nodes' fields are made its own: what is left is as in the heap that it was made from. -/
structure CL (W w' : World) (xb mc r : Nat) (f g : NM) (left : Lit → Bool) : Prop where
  some_ : ∀ p x, f p = some x → ∃ v', g p = some (x.1, v') ∧ (left (.int .i64 p) = true → v' = x.2) ∧ (left (.int .i64 p) = false → Kd.R k33 33 w' W.heap.size (fun j => j ≠ xb ∧ j ≠ mc ∧ j ≠ r) v' x.1.fs)
  none_ : ∀ p, f p = none → g p = none
  apart : ∀ p p' x x', p ≠ p' → left (.int .i64 p) = false → left (.int .i64 p') = false → g p = some x → g p' = some x' → ∀ j, x.2.ownBlock = some j → x'.2.ownBlock ≠ some j
theorem CL.back {W w' : World} {xb mc r : Nat} {f g : NM} {left : Lit → Bool} (h : CL W w' xb mc r f g left) {p : Int} {y : Nd × Value} (hg : g p = some y) : ∃ v, f p = some (y.1, v) ∧ (left (.int .i64 p) = true → y.2 = v) ∧ (left (.int .i64 p) = false → Kd.R k33 33 w' W.heap.size (fun j => j ≠ xb ∧ j ≠ mc ∧ j ≠ r) y.2 y.1.fs) := by
  cases hf : f p with
  | none => rw [h.none_ p hf] at hg; cases hg
  | some x =>
    obtain ⟨v', h1, h2, h3⟩ := h.some_ p x hf
    rw [h1] at hg
    obtain rfl := Option.some.inj hg
    exact ⟨x.2, rfl, h2, h3⟩
/-- Rows are kept where their blocks are. -/
theorem CL.step {W w' w2 : World} {xb mc r : Nat} {f g : NM} {left : Lit → Bool} (h : CL W w' xb mc r f g left) (hb : ∀ j, j < w'.heap.size → j ≠ xb → j ≠ mc → j ≠ r → w2.heap[j]? = w'.heap[j]?) : CL W w2 xb mc r f g left where
  some_ := fun p x hf => by
    obtain ⟨v', h1, h2, h3⟩ := h.some_ p x hf
    exact ⟨v', h1, h2, fun hl => R33_step (h3 hl) (fun j hj => hb j (Kd.R_lt (h3 hl) j hj) ((h3 hl).1 j hj).1 ((h3 hl).1 j hj).2.1 ((h3 hl).1 j hj).2.2) (fun j hj => (h3 hl).1 j hj)⟩
  none_ := h.none_
  apart := h.apart
theorem same_int {p q : Int} : (Lit.int .i64 p).sameKey (.int .i64 q) = decide (p = q) := by
  by_cases h : p = q
  · subst h
    rw [WideAt.sameKey_self (key_is p)]
    simp
  · rw [Maps.sameKey_ne (fun e => h (by injection e))]
    simp [h]
/-- The key that has come is struck, its node has fields of its own. -/
theorem CL.next {W w' : World} {xb mc r : Nat} {f g : NM} {left : Lit → Bool} (h : CL W w' xb mc r f g left) {p : Int} {nd : Nd} {u v : Value} (hf : f p = some (nd, u)) (hR : Kd.R k33 33 w' W.heap.size (fun j => j ≠ xb ∧ j ≠ mc ∧ j ≠ r) v nd.fs) (hv : ∀ p' x', p' ≠ p → left (.int .i64 p') = false → g p' = some x' → ∀ j, v.ownBlock = some j → x'.2.ownBlock ≠ some j) :
    CL W w' xb mc r f (updM g p (nd, v)) (fun z => left z && !z.sameKey (.int .i64 p)) where
  some_ := fun q x hq => by
    by_cases hqp : q = p
    · subst hqp
      rw [hf] at hq
      obtain rfl := Option.some.inj hq
      refine ⟨v, updM_same _ _ _, fun hl => ?_, fun _ => hR⟩
      simp only [same_int, decide_true, Bool.not_true, Bool.and_false] at hl
      cases hl
    · obtain ⟨v', h1, h2, h3⟩ := h.some_ q x hq
      refine ⟨v', (updM_ne _ _ hqp).trans h1, fun hl => h2 ?_, fun hl => h3 ?_⟩
      · simpa [same_int, hqp] using hl
      · simpa [same_int, hqp] using hl
  none_ := fun q hq => by
    have hqp : q ≠ p := fun e => by rw [e, hf] at hq; cases hq
    exact (updM_ne _ _ hqp).trans (h.none_ q hq)
  apart := fun q q' x x' hne hl hl' hx hx' j hj => by
    by_cases hqp : q = p
    · subst hqp
      rw [updM_same] at hx
      obtain rfl := Option.some.inj hx
      rw [updM_ne _ _ (Ne.symm hne)] at hx'
      exact hv q' x' (Ne.symm hne) (by simpa [same_int, Ne.symm hne] using hl') hx' j hj
    · rw [updM_ne _ _ hqp] at hx
      by_cases hqp' : q' = p
      · subst hqp'
        rw [updM_same] at hx'
        obtain rfl := Option.some.inj hx'
        intro e
        exact hv q x hqp (by simpa [same_int, hqp] using hl) hx j e hj
      · rw [updM_ne _ _ hqp'] at hx'
        exact h.apart q q' x x' hne (by simpa [same_int, hqp] using hl) (by simpa [same_int, hqp'] using hl') hx hx' j hj
theorem cl_next {w1 : World} {ops : Array Oper} {rest : List Oper} {o : Oper} {a : Act} {Q : Exit → Act → World → Prop} {xb mc r cnt : Nat} {g : NM} {left : Lit → Bool} (h0 : HW W base b mb half used n f) (h : RgF w1 mc r n (lits g) left cnt) (hc : CL W w1 xb mc r f g left) (hg : o.guard = none) (it : Operand) (hop : o.op = Op.next it false) (hit : a.eval it = .pointer (some ⟨r, 0, none⟩))
    (hDone : Aside0 (∀ l, left l = false) → wpList Tryd.prog ops Q rest (a.put o.dst (.tuple #[.bool false])) w1)
    (hMore : ∀ (x : Int) (nd : Nd) (A : Option Addr) (c : Nat) (w4 : World) (cnt' : Nat), Aside0 (WF x) → Aside0 (f x = some (nd, .slice A nd.fs.length c)) → Aside0 (lits g (.int .i64 x) = some (nodeVal (nd, .slice A nd.fs.length c))) → Aside0 (RgF w4 mc r n (lits g) (fun z => left z && !z.sameKey (.int .i64 x)) cnt') → Aside0 (cnt' < cnt) → Aside0 (w1.grownBy w4 (some r)) →
      (Instr.entry (.pointer (some ⟨r, 0, none⟩))).run Tryd.prog w4 = .ok (.tuple #[.int .i64 x, .agg #[.int .i64 nd.tag, .slice A nd.fs.length c, .int .i64 nd.link]]) w4 → wpList Tryd.prog ops Q rest (a.put o.dst (.tuple #[.bool true, .int .i64 x, .agg #[.int .i64 nd.tag, .slice A nd.fs.length c, .int .i64 nd.link]])) w4) :
    wpList Tryd.prog ops Q (o :: rest) a w1 := by
  refine rg_next h hg it hop hit (fun hl => hDone ⟨hl⟩) (fun x v w4 cnt' hwx hlx hFx hrg hlt hgr _ hen => ?_)
  have hF2 : (g x).map nodeVal = some v := hFx
  cases hgx : g x with
  | none => rw [hgx] at hF2; cases hF2
  | some y =>
    rw [hgx] at hF2
    obtain rfl := Option.some.inj hF2
    obtain ⟨nd, u⟩ := y
    obtain ⟨v0, hf, hl, _⟩ := hc.back hgx
    have hu : u = v0 := hl hlx
    subst hu
    obtain ⟨A, c, hv⟩ := Kd.R_slice (h0.rows x _ hf)
    simp only at hv
    subst hv
    exact hMore x nd A c w4 cnt' ⟨hwx⟩ ⟨hf⟩ ⟨hFx⟩ ⟨hrg⟩ ⟨hlt⟩ ⟨hgr⟩ hen
theorem grown_of_below {w1 w2 : World} (h : Below w1.heap.size w1 w2) : w1.grownBy w2 none := ⟨h.os, h.tape, h.output, h.size, fun i hi _ => h.block i hi⟩
set_option maxHeartbeats 8000000 in
set_option maxRecDepth 100000 in
theorem clone19_calls (h : HW W base b mb half used n f) (hn : n < maxLen) (hlen : ∀ p x, f p = some x → x.1.fs.length ≤ 100000) (hbW : base ≤ W.heap.size) :
    Calls Tryd.prog 19 #[.pointer (some ⟨b, 0, none⟩)] W fun e W' => ∃ xb mc g, e = .returned (.pointer (some ⟨xb, 0, none⟩)) ∧ HW W' W.heap.size xb mc half used n g ∧ (∀ p, (g p).map (·.1) = (f p).map (·.1)) ∧ Below W.heap.size W W' := by
  have h9 := Aside0.mk h
  have hn := Aside0.mk hn
  have hlen := Aside0.mk hlen
  have hbl := Aside0.mk (below_drew1 (Below.refl W.heap.size W))
  have H9 : Aside0 (HW W.drew base b mb half used n f) := ⟨h.below hbl.out⟩
  have hsz9 : Aside0 (W.drew.heap.size = W.heap.size) := ⟨rfl⟩
  have A0 : Aside0 (W.drew.cell? ⟨b, 0, none⟩ = some (.int .i64 half)) := ⟨H9.out.cells.1⟩
  have A1 : Aside0 (W.drew.cell? ⟨b, 1, none⟩ = some (.int .i64 used)) := ⟨H9.out.cells.2.1⟩
  have A2 : Aside0 (W.drew.cell? ⟨b, 2, none⟩ = some (.map (some mb))) := ⟨H9.out.cells.2.2.1⟩
  clear h
  go_enter Tryd.func19, Tryd.ntmps19
  go_wp2
  refine start_ (n := 16) (S := fun w' => w'.cell? ⟨b, 0, none⟩ = some (.int .i64 half) ∧ w'.cell? ⟨b, 1, none⟩ = some (.int .i64 used) ∧ w'.cell? ⟨b, 2, none⟩ = some (.map (some mb))) (ds := []) #[false, false, false, false, false, false, false, false, false, false, false, false, false, false, false, false] (by kernel_rfl) rfl rfl ⟨A0.out, A1.out, A2.out⟩ (fun hHeld => ?_)
  generalize W.drew = W9 at *
  refine pure_ (i := 0) (N := some 6) (v := ?_) (a' := ?_) #[true, false, false, false, false, false, false, false, false, false, false, false, false, false, false, false] rfl rfl (by kernel_rfl) (fun _ _ _ h => h) (Or.inl ⟨by rfl, ?_⟩) ?_ ?_
  rotate_left
  · intro w'
    go_simp
    with_reducible rfl
  rotate_left
  · simp only [Act.put, List.setIfInBounds_toArray, List.set_cons_zero, List.set_cons_succ, i64_w, i32_w]
    rfl
  refine pure_ (i := 1) (N := some 7) (v := ?_) (a' := ?_) #[true, true, false, false, false, false, false, false, false, false, false, false, false, false, false, false] rfl rfl (by kernel_rfl) (fun _ _ _ h => h) (Or.inl ⟨by rfl, ?_⟩) ?_ ?_
  rotate_left
  · intro w'
    go_simp
    with_reducible rfl
  rotate_left
  · simp only [Act.put, List.setIfInBounds_toArray, List.set_cons_zero, List.set_cons_succ, i64_w, i32_w]
    rfl
  refine pure_ (i := 2) (N := some 8) (v := ?_) (a' := ?_) #[true, true, true, false, false, false, false, false, false, false, false, false, false, false, false, false] rfl rfl (by kernel_rfl) (fun _ _ _ h => h) (Or.inl ⟨by rfl, ?_⟩) ?_ ?_
  rotate_left
  · intro w'
    go_simp
    with_reducible rfl
  rotate_left
  · simp only [Act.put, List.setIfInBounds_toArray, List.set_cons_zero, List.set_cons_succ, i64_w, i32_w]
    rfl
  refine pure_ (i := 4) (N := some 10) (v := ?_) (a' := ?_) #[true, true, true, false, true, false, false, false, false, false, false, false, false, false, false, false] rfl rfl (by kernel_rfl) (fun _ _ _ h => h) (Or.inl ⟨by rfl, ?_⟩) ?_ ?_
  rotate_left
  · intro w'
    go_simp
    with_reducible rfl
  rotate_left
  · simp only [Act.put, List.setIfInBounds_toArray, List.set_cons_zero, List.set_cons_succ, i64_w, i32_w]
    rfl
  refine pure_ (i := 5) (N := some 11) (v := ?_) (a' := ?_) #[true, true, true, false, true, true, false, false, false, false, false, false, false, false, false, false] rfl rfl (by kernel_rfl) (fun _ _ _ h => h) (Or.inl ⟨by rfl, ?_⟩) ?_ ?_
  rotate_left
  · intro w'
    go_simp
    with_reducible rfl
  rotate_left
  · simp only [Act.put, List.setIfInBounds_toArray, List.set_cons_zero, List.set_cons_succ, i64_w, i32_w]
    rfl
  refine pure_ (i := 6) (N := some 12) (v := ?_) (a' := ?_) #[true, true, true, false, true, true, true, false, false, false, false, false, false, false, false, false] rfl rfl (by kernel_rfl) (fun _ _ _ h => h) (Or.inl ⟨by rfl, ?_⟩) ?_ ?_
  rotate_left
  · intro w'
    go_simp
    with_reducible rfl
  rotate_left
  · simp only [Act.put, List.setIfInBounds_toArray, List.set_cons_zero, List.set_cons_succ, i64_w, i32_w]
    rfl
  refine pure_ (i := 8) (N := some 14) (v := ?_) (a' := ?_) #[true, true, true, false, true, true, true, false, true, false, false, false, false, false, false, false] rfl rfl (by kernel_rfl) (fun _ _ _ h => h) (Or.inl ⟨by rfl, ?_⟩) ?_ ?_
  rotate_left
  · intro w'
    go_simp
    with_reducible rfl
  rotate_left
  · simp only [Act.put, List.setIfInBounds_toArray, List.set_cons_zero, List.set_cons_succ, i64_w, i32_w]
    rfl
  refine pure_ (i := 9) (N := some 15) (v := ?_) (a' := ?_) #[true, true, true, false, true, true, true, false, true, true, false, false, false, false, false, false] rfl rfl (by kernel_rfl) (fun _ _ _ h => h) (Or.inl ⟨by rfl, ?_⟩) ?_ ?_
  rotate_left
  · intro w'
    go_simp
    with_reducible rfl
  rotate_left
  · simp only [Act.put, List.setIfInBounds_toArray, List.set_cons_zero, List.set_cons_succ, i64_w, i32_w]
    rfl
  refine pure_ (i := 10) (N := some 16) (v := ?_) (a' := ?_) #[true, true, true, false, true, true, true, false, true, true, true, false, false, false, false, false] rfl rfl (by kernel_rfl) (fun _ _ _ h => h) (Or.inl ⟨by rfl, ?_⟩) ?_ ?_
  rotate_left
  · intro w'
    go_simp
    with_reducible rfl
  rotate_left
  · simp only [Act.put, List.setIfInBounds_toArray, List.set_cons_zero, List.set_cons_succ, i64_w, i32_w]
    rfl
  refine take_ (i := 3) (N := some 9) (v := ?_) (a' := ?_) #[true, true, true, true, true, true, true, false, true, true, true, false, false, false, false, false] rfl rfl (by kernel_rfl) (fun _ _ _ h => h) (Or.inl ⟨by rfl, ?_⟩) hHeld ?_ ?_
  rotate_left
  · rintro w' ⟨s0, s1, s2⟩
    go_simp
    with_reducible rfl
  rotate_left
  · simp only [Act.put, List.setIfInBounds_toArray, List.set_cons_zero, List.set_cons_succ, i64_w, i32_w]
    rfl
  refine take_ (i := 7) (N := some 13) (v := ?_) (a' := ?_) #[true, true, true, true, true, true, true, true, true, true, true, false, false, false, false, false] rfl rfl (by kernel_rfl) (fun _ _ _ h => h) (Or.inl ⟨by rfl, ?_⟩) hHeld ?_ ?_
  rotate_left
  · rintro w' ⟨s0, s1, s2⟩
    go_simp
    with_reducible rfl
  rotate_left
  · simp only [Act.put, List.setIfInBounds_toArray, List.set_cons_zero, List.set_cons_succ, i64_w, i32_w]
    rfl
  refine take_ (i := 11) (N := some 17) (v := ?_) (a' := ?_) #[true, true, true, true, true, true, true, true, true, true, true, true, false, false, false, false] rfl rfl (by kernel_rfl) (fun _ _ _ h => h) (Or.inl ⟨by rfl, ?_⟩) hHeld ?_ ?_
  rotate_left
  · rintro w' ⟨s0, s1, s2⟩
    go_simp
    with_reducible rfl
  rotate_left
  · simp only [Act.put, List.setIfInBounds_toArray, List.set_cons_zero, List.set_cons_succ, i64_w, i32_w]
    rfl
  refine one_ (i := 12) (N := some 18) #[true, true, true, true, true, true, true, true, true, true, true, true, true, false, false, false] rfl rfl (by kernel_rfl) (by decide) (fun K hK => ?_)
  refine goes_ Tryd.func28 (by kernel_rfl) rfl #[.map (some mb)] (by rfl) rfl rfl (by simp only [List.map_toArray, List.map_cons, List.map_nil]; rfl) ?_
  (with_reducible refine (mapclone_calls H9.out.map).mono ?_)
  rintro e w2 ⟨rfl, hM2, hb⟩
  refine ⟨_, rfl, ?_⟩
  have HM2 := Aside0.mk hM2
  have HB2 := Aside0.mk hb
  clear hM2
  refine hK.out _ _ ⟨(hb.cell (World.block_lt_of_cell? _ _ (hHeld.1))).trans (hHeld.1), (hb.cell (World.block_lt_of_cell? _ _ (hHeld.2.1))).trans (hHeld.2.1), (hb.cell (World.block_lt_of_cell? _ _ (hHeld.2.2))).trans (hHeld.2.2)⟩ (fun hHeld => ?_)
  clear hK K
  refine norm_ (a' := ?_) ?_ ?_
  rotate_left
  · show Act.put _ (some 18) _ = _
    simp only [Act.put, List.setIfInBounds_toArray, List.set_cons_zero, List.set_cons_succ, i64_w, i32_w]
    rfl
  refine pure_ (i := 13) (N := some 19) (v := ?_) (a' := ?_) #[true, true, true, true, true, true, true, true, true, true, true, true, true, true, false, false] rfl rfl (by kernel_rfl) (fun _ _ _ h => h) (Or.inl ⟨by rfl, ?_⟩) ?_ ?_
  rotate_left
  · intro w'
    go_simp
    with_reducible rfl
  rotate_left
  · simp only [Act.put, List.setIfInBounds_toArray, List.set_cons_zero, List.set_cons_succ, i64_w, i32_w]
    rfl
  refine one_ (i := 14) (N := some 20) #[true, true, true, true, true, true, true, true, true, true, true, true, true, true, true, false] rfl rfl (by kernel_rfl) (by decide) (fun K hK => ?_)
  refine value_ (w1 := ?_) (v := ?_) (by rfl) rfl ?_ ?_
  rotate_left 2
  · go_simp
    constructor
    · rfl
    · rfl
  refine hK.out _ _ ⟨(World.cell?_alloc_lt _ _ _ (World.block_lt_of_cell? _ _ (hHeld.1))).trans (hHeld.1), (World.cell?_alloc_lt _ _ _ (World.block_lt_of_cell? _ _ (hHeld.2.1))).trans (hHeld.2.1), (World.cell?_alloc_lt _ _ _ (World.block_lt_of_cell? _ _ (hHeld.2.2))).trans (hHeld.2.2)⟩ (fun hHeld => ?_)
  clear hK K
  refine norm_ (a' := ?_) ?_ ?_
  rotate_left
  · show Act.put _ (some 20) _ = _
    simp only [Act.put, List.setIfInBounds_toArray, List.set_cons_zero, List.set_cons_succ, i64_w, i32_w]
    rfl
  refine pure_ (i := 15) (N := some 3) (v := ?_) (a' := ?_) #[true, true, true, true, true, true, true, true, true, true, true, true, true, true, true, true] rfl rfl (by kernel_rfl) (fun _ _ _ h => h) (Or.inl ⟨by rfl, ?_⟩) ?_ ?_
  rotate_left
  · intro w'
    go_simp
    with_reducible rfl
  rotate_left
  · simp only [Act.put, List.setIfInBounds_toArray, List.set_cons_zero, List.set_cons_succ, i64_w, i32_w]
    rfl
  refine done_ (by kernel_rfl) ?_
  clear hHeld
  have hbl2 := Aside0.mk (below_step hbl.out (show Below W9.heap.size W9 (w2.alloc (.cells #[.int .i64 half, .int .i64 used, .map (some W9.heap.size)] 48)) from below_step HB2.out (below_alloc (Below.refl _ _) _)))
  have hM3 := Aside0.mk (HM2.out.of_block (W1 := w2.alloc (.cells #[.int .i64 half, .int .i64 used, .map (some W9.heap.size)] 48)) (Below.heap_alloc _ _ _ HM2.out.lt))
  have hxb := Aside0.mk (blk_new w2 (.cells #[.int .i64 half, .int .i64 used, .map (some W9.heap.size)] 48 (0, 0)))
  have hord : Aside0 (W.heap.size ≤ W9.heap.size ∧ W9.heap.size < w2.heap.size ∧ w2.heap.size < (w2.alloc (.cells #[.int .i64 half, .int .i64 used, .map (some W9.heap.size)] 48)).heap.size) := ⟨Nat.le_of_eq hsz9.out.symm, HM2.out.lt, by rw [show ∀ o, (w2.alloc o).heap.size = w2.heap.size + 1 from fun o => Array.size_push _]; exact Nat.lt_succ_self _⟩
  clear hb HB2 HM2 A0 A1 A2
  go_wp2_with (first | (at_range; refine rg_range hM3.out rfl _ rfl rfl ?_; intro w3 left cnt hrg hleft hgr hs3; have hrg := Aside0.mk hrg; have hleft := Aside0.mk hleft; have hgr := Aside0.mk hgr; have hs3 := Aside0.mk hs3))
  go_frame
  generalize hxe : w2.heap.size = xb at *
  generalize hme : W9.heap.size = mc at *
  generalize hre : (w2.alloc (.cells #[.int .i64 half, .int .i64 used, .map (some mc)] 48)).heap.size = r at *
  have hbl3 : Aside0 (Below W.heap.size W w3) := ⟨hbl2.out.trans ⟨hgr.out.os, hgr.out.tape, hgr.out.output, hgr.out.size, fun j hj => hgr.out.block j (by have := hord.out; omega) (by simp)⟩⟩
  have hxb3 : Aside0 (w3.heap[xb]? = some (.cells #[.int .i64 half, .int .i64 used, .map (some mc)] 48 (0, 0))) := ⟨(hgr.out.block xb (by have := hord.out; omega) (by simp)).trans hxb.out⟩
  have hcl3 : Aside0 (CL W w3 xb mc r f f left) := ⟨⟨fun p x hf => ⟨x.2, hf, fun _ => rfl, fun hl => by rw [hleft.out] at hl; simp [lits, hf] at hl⟩, fun p hf => hf, fun p p' x x' _ hl _ hg _ => by rw [hleft.out] at hl; simp [lits, hg] at hl⟩⟩
  clear hxb hM3 hbl2
  go_loopg [4] (cnt + 1) (fun kq v4 w' => ∃ (g : NM) (lf : Lit → Bool) (ct : Nat), kq = ct + 1 ∧ Aside0 (RgF w' mc r n (lits g) lf ct) ∧ Aside0 (w'.heap[xb]? = some (.cells #[.int .i64 half, .int .i64 used, .map (some mc)] 48 (0, 0))) ∧ Aside0 (CL W w' xb mc r f g lf) ∧ Aside0 (Below W.heap.size W w'))
  case atStart => exact ⟨f, left, cnt, rfl, hrg, hxb3, hcl3, hbl3⟩
  case round =>
    obtain ⟨g, lf, ct, hk, hR, hX, hC, hB⟩ := hrel
    go_wp2_with (first | (at_next; refine cl_next h9.out hR.out hC.out rfl _ rfl rfl (fun hd => ?_) (fun x nd A c w4 ct' hwx hfx HGX hrg4 hct hg4 hen => ?_)) | (go_at_call 24; have hB4 := hB.out.trans ((Mod.of_grown hg4.out).below hB.out.size (fun j _ hj => by have := hord.out; omega)); have HB4 := Aside0.mk hB4; have hC4 := Kd.C_below (Kd.R_reads' (h9.out.rows x _ hfx.out)).2.2 (hB4.trans ((below_alloc (Below.refl w4.heap.size w4) (.cells #[.int .i64 nd.tag, .slice A nd.fs.length c, .int .i64 nd.link] 54)).mono hB4.size)); go_loud (with_reducible refine (clone_calls nd.fs hC4 (show nd.fs.length * 16 ≤ 140737488355328 from by have h6 : nd.fs.length ≤ 100000 := hlen.out x _ hfx.out; omega)).mono ?_); rintro e w5 ⟨u, rfl, hr5, hb5⟩; obtain ⟨A2, c2, hv5⟩ := Kd.R_slice hr5; subst hv5; have HR5 := Aside0.mk hr5; have HB5 := Aside0.mk hb5; have hbk5 := blk_below (blk_new w4 (.cells #[.int .i64 nd.tag, .slice A nd.fs.length c, .int .i64 nd.link] 54 (0, 0))) hb5; have HK5 := Aside0.mk hbk5; have hz5 := blk_frozen hbk5 1; have hc5 := (blk_cell hbk5 1).trans rfl; clear hb5 hr5 hbk5 hB4 hC4))
    · have hfin : Aside0 (HW wr W.heap.size xb mc half used n g ∧ (∀ p, (g p).map (·.1) = (f p).map (·.1))) := ⟨by
        refine ⟨⟨hX.out, hR.out.mapF, fun p y hg => ?_, ⟨by have := hord.out; omega, hord.out.1⟩, fun p y hg => ?_⟩, fun p => ?_⟩
        · obtain ⟨v0, hf, _, hr⟩ := hC.out.back hg
          have hr := hr (hd.out _)
          exact R33_ok hr (fun j hj => ⟨(hr.1 j hj).1, (hr.1 j hj).2.1, fun p' x' hne hx' e => hC.out.apart p p' y x' (Ne.symm hne) (hd.out _) (hd.out _) hg hx' j hj e.symm⟩)
        · obtain ⟨v0, hf, _, _⟩ := hC.out.back hg
          exact h9.out.wl p (y.1, v0) hf
        · cases hf : f p with
          | none => rw [hC.out.none_ p hf]
          | some x =>
            obtain ⟨v', h1, _, _⟩ := hC.out.some_ p x hf
            rw [h1]
            rfl⟩
      go_ret
      exact ⟨xb, mc, g, rfl, hfin.out.1, hfin.out.2, hB.out⟩
    · have hbp : Aside0 ((w5.setCell ⟨w4.heap.size, 1, none⟩ (.slice A2 nd.fs.length c2)).heap[w4.heap.size]? = some (.cells #[.int .i64 nd.tag, .slice A2 nd.fs.length c2, .int .i64 nd.link] 54 (0, 0))) := ⟨blk_put HK5.out 1 _ rfl⟩
      have hal : Aside0 (Below w4.heap.size w4 (w4.alloc (.cells #[.int .i64 nd.tag, .slice A nd.fs.length c, .int .i64 nd.link] 54))) := ⟨below_alloc (Below.refl _ _) _⟩
      have h10 : Aside0 (Below w4.heap.size w4 (w5.setCell ⟨w4.heap.size, 1, none⟩ (.slice A2 nd.fs.length c2)).drew) := ⟨below_drew1 ((hal.out.trans (HB5.out.mono hal.out.size)).setCell (Nat.le_refl w4.heap.size) _)⟩
      have hlt4 := Aside0.mk (show r < w4.heap.size from Nat.lt_of_lt_of_le hR.out.lt.1 hg4.out.size)
      have HR10 : Aside0 (RgF (w5.setCell ⟨w4.heap.size, 1, none⟩ (.slice A2 nd.fs.length c2)).drew mc r n (lits g) (fun z => lf z && !z.sameKey (.int .i64 x)) ct') := ⟨hrg4.out.kept (grown_of_below h10.out) (by simp) (by simp)⟩
      have hX4 : w4.heap[xb]? = some (.cells #[.int .i64 half, .int .i64 used, .map (some mc)] 48 (0, 0)) := (hg4.out.block xb (Array.getElem?_eq_some_iff.1 hX.out).1 (fun e => by have := hord.out; injection e; omega)).trans hX.out
      have hX10 : Aside0 ((w5.setCell ⟨w4.heap.size, 1, none⟩ (.slice A2 nd.fs.length c2)).drew.heap[xb]? = some (.cells #[.int .i64 half, .int .i64 used, .map (some mc)] 48 (0, 0))) := ⟨(h10.out.block xb (by have := hord.out; have := hlt4.out; omega)).trans hX4⟩
      have hC10 : Aside0 (CL W (w5.setCell ⟨w4.heap.size, 1, none⟩ (.slice A2 nd.fs.length c2)).drew xb mc r f g lf) := ⟨(hC.out.step (fun j hj _ _ hjr => hg4.out.block j hj (fun e => hjr (Option.some.inj e)))).step (fun j hj _ _ _ => h10.out.block j hj)⟩
      have hB10 : Aside0 (Below W.heap.size W (w5.setCell ⟨w4.heap.size, 1, none⟩ (.slice A2 nd.fs.length c2)).drew) := ⟨HB4.out.trans (h10.out.mono HB4.out.size)⟩
      have hge : Aside0 (∀ j, (Value.slice A2 nd.fs.length c2).ownBlock = some j → w4.heap.size < j) := ⟨fun j hj => by
        have := Kd.R_base HR5.out j hj
        rw [show ∀ o, (w4.alloc o).heap.size = w4.heap.size + 1 from fun o => Array.size_push _] at this
        omega⟩
      have hR10 : Aside0 (Kd.R k33 33 (w5.setCell ⟨w4.heap.size, 1, none⟩ (.slice A2 nd.fs.length c2)).drew W.heap.size (fun j => j ≠ xb ∧ j ≠ mc ∧ j ≠ r) (.slice A2 nd.fs.length c2) nd.fs) := ⟨Kd.R_lower (R33_step HR5.out (fun j hj => Below.heap_setCell w5 ⟨w4.heap.size, 1, none⟩ _ j (fun e => by have := hge.out j hj; rw [e] at this; exact Nat.lt_irrefl _ this)) (fun j hj => by have := hge.out j hj; have := hord.out; have := hlt4.out; omega)) (Nat.le_trans HB4.out.size (Nat.le_of_lt (show w4.heap.size < (w4.alloc (.cells #[.int .i64 nd.tag, .slice A nd.fs.length c, .int .i64 nd.link] 54)).heap.size by rw [show ∀ o, (w4.alloc o).heap.size = w4.heap.size + 1 from fun o => Array.size_push _]; omega)))⟩
      have hCN := Aside0.mk (hC10.out.next hfx.out hR10.out (fun p' x' hne hl' hg' j hj e => by
        obtain ⟨v0, _, _, hr⟩ := hC.out.back hg'
        have h1 := Kd.R_lt (hr hl') j e
        have h2 := hge.out j hj
        have h3 := hg4.out.size
        omega))
      have X2 : Aside0 ((w5.setCell ⟨w4.heap.size, 1, none⟩ (.slice A2 nd.fs.length c2)).drew.cell? ⟨xb, 2, none⟩ = some (.map (some mc))) := ⟨(blk_cell hX10.out 2).trans rfl⟩
      have B0 : Aside0 ((w5.setCell ⟨w4.heap.size, 1, none⟩ (.slice A2 nd.fs.length c2)).drew.cell? ⟨w4.heap.size, 0, none⟩ = some (.int .i64 nd.tag)) := ⟨(blk_cell hbp.out 0).trans rfl⟩
      have B1 : Aside0 ((w5.setCell ⟨w4.heap.size, 1, none⟩ (.slice A2 nd.fs.length c2)).drew.cell? ⟨w4.heap.size, 1, none⟩ = some (.slice A2 nd.fs.length c2)) := ⟨(blk_cell hbp.out 1).trans rfl⟩
      have B2 : Aside0 ((w5.setCell ⟨w4.heap.size, 1, none⟩ (.slice A2 nd.fs.length c2)).drew.cell? ⟨w4.heap.size, 2, none⟩ = some (.int .i64 nd.link)) := ⟨(blk_cell hbp.out 2).trans rfl⟩
      clear hz5 hc5 hen hX4
      refine start_ (n := 7) (S := fun w' => w'.cell? ⟨xb, 2, none⟩ = some (.map (some mc)) ∧ w'.cell? ⟨w4.heap.size, 0, none⟩ = some (.int .i64 nd.tag) ∧ w'.cell? ⟨w4.heap.size, 1, none⟩ = some (.slice A2 nd.fs.length c2) ∧ w'.cell? ⟨w4.heap.size, 2, none⟩ = some (.int .i64 nd.link)) (ds := [6]) #[false, false, false, false, false, false, false] (by kernel_rfl) rfl rfl ⟨X2.out, B0.out, B1.out, B2.out⟩ (fun hHeld => ?_)
      generalize (w5.setCell ⟨w4.heap.size, 1, none⟩ (.slice A2 nd.fs.length c2)).drew = W10 at *
      refine pure_ (i := 0) (N := some 35) (v := ?_) (a' := ?_) #[true, false, false, false, false, false, false] rfl rfl (by kernel_rfl) (fun _ _ _ h => h) (Or.inl ⟨by rfl, ?_⟩) ?_ ?_
      rotate_left
      · intro w'
        go_simp
        with_reducible rfl
      rotate_left
      · simp only [Act.put, List.setIfInBounds_toArray, List.set_cons_zero, List.set_cons_succ, i64_w, i32_w]
        rfl
      refine pure_ (i := 1) (N := some 36) (v := ?_) (a' := ?_) #[true, true, false, false, false, false, false] rfl rfl (by kernel_rfl) (fun _ _ _ h => h) (Or.inl ⟨by rfl, ?_⟩) ?_ ?_
      rotate_left
      · intro w'
        go_simp
        with_reducible rfl
      rotate_left
      · simp only [Act.put, List.setIfInBounds_toArray, List.set_cons_zero, List.set_cons_succ, i64_w, i32_w]
        rfl
      refine pure_ (i := 2) (N := some 37) (v := ?_) (a' := ?_) #[true, true, true, false, false, false, false] rfl rfl (by kernel_rfl) (fun _ _ _ h => h) (Or.inl ⟨by rfl, ?_⟩) ?_ ?_
      rotate_left
      · intro w'
        go_simp
        with_reducible rfl
      rotate_left
      · simp only [Act.put, List.setIfInBounds_toArray, List.set_cons_zero, List.set_cons_succ, i64_w, i32_w]
        rfl
      refine pure_ (i := 4) (N := some 39) (v := ?_) (a' := ?_) #[true, true, true, false, true, false, false] rfl rfl (by kernel_rfl) (fun _ _ _ h => h) (Or.inl ⟨by rfl, ?_⟩) ?_ ?_
      rotate_left
      · intro w'
        go_simp
        with_reducible rfl
      rotate_left
      · simp only [Act.put, List.setIfInBounds_toArray, List.set_cons_zero, List.set_cons_succ, i64_w, i32_w]
        rfl
      refine take_ (i := 3) (N := some 38) (v := ?_) (a' := ?_) #[true, true, true, true, true, false, false] rfl rfl (by kernel_rfl) (fun _ _ _ h => h) (Or.inl ⟨by rfl, ?_⟩) hHeld ?_ ?_
      rotate_left
      · rintro w' ⟨s0, s1, s2, s3⟩
        go_simp
        with_reducible rfl
      rotate_left
      · simp only [Act.put, List.setIfInBounds_toArray, List.set_cons_zero, List.set_cons_succ, i64_w, i32_w]
        rfl
      refine take_ (i := 5) (N := some 40) (v := ?_) (a' := ?_) #[true, true, true, true, true, true, false] rfl rfl (by kernel_rfl) (fun _ _ _ h => h) (Or.inl ⟨by rfl, ?_⟩) hHeld ?_ ?_
      rotate_left
      · rintro w' ⟨s0, s1, s2, s3⟩
        go_simp
        with_reducible rfl
      rotate_left
      · simp only [Act.put, List.setIfInBounds_toArray, List.set_cons_zero, List.set_cons_succ, i64_w, i32_w]
        rfl
      refine last_ (i := 6) (N := none) #[true, true, true, true, true, true, true] rfl rfl (by kernel_rfl) (by decide) (fun K hK => ?_)
      obtain ⟨W7, F7, hrun, hR7, hF1, hF2, hg7⟩ := HR10.out.update hn.out hwx.out HGX.out (nodeVal (nd, .slice A2 nd.fs.length c2))
      simp only [nodeVal] at hrun
      refine skip_ (w1 := W7) (by rfl) rfl ?_ ?_
      · go_simp
      refine hK.out _ _ ?_
      clear hK K
      refine done_ (by kernel_rfl) ?_
      clear hHeld
      have hmc7 : ∀ j, j ≠ mc → j < W10.heap.size → W7.heap[j]? = W10.heap[j]? := fun j hj hlt => hg7.block j hlt (fun e => hj (Option.some.inj e))
      have hCN7 := Aside0.mk (hCN.out.step (fun j hj _ hjm _ => hmc7 j hjm hj))
      have hX7 := Aside0.mk ((hmc7 xb (by have := hord.out; omega) (Array.getElem?_eq_some_iff.1 hX10.out).1).trans hX10.out)
      have hB7 : Aside0 (Below W.heap.size W W7) := ⟨hB10.out.trans ((Mod.of_grown hg7).below hB10.out.size (fun j _ hj => hj ▸ hord.out.1))⟩
      have hR7' := Aside0.mk (lits_upd hF1 hF2 ▸ hR7)
      clear hR7 hF1 hF2 hg7 hrun hmc7
      go_wp2
      go_roundg (ct' + 1)
      case measure => have := hct.out; omega
      case rel => exact ⟨updM g x (nd, .slice A2 nd.fs.length c2), _, ct', rfl, hR7', hX7, hCN7, hB7⟩
end
end Go.Proofs.YtepaddjjdhpmpaaDoor.HeapA
