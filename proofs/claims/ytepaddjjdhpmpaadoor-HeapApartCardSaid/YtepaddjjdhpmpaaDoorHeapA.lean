/- A heap of nodes in memory: what its map holds, where the nodes' fields lie, all apart; what looks at it alone. No condition beyond those that each states. -/
import Derived.Test.YtepaddjjdhpmpaaDoorHeapK
import Derived.Test.YtepaddjjdhpmpaaDoorPHeapPx1
import Derived.Maps.OwnOps
import Derived.Maps.Views
namespace Go.Proofs.YtepaddjjdhpmpaaDoor.HeapA
open Go.RowKit Go.Proofs.YtepaddjjdhpmpaaDoorW.PrintWords Go.Proofs.YtepaddjjdhpmpaaDoorW.PrintLast Go.Proofs.YtepaddjjdhpmpaaDoorW.PrintMore Go.Proofs.YtepaddjjdhpmpaaDoor.HeapK Go.Proofs.YtepaddjjdhpmpaaDoor.PHeapP
open Go.Maps (Keyed has IsMap)
set_option linter.unusedVariables false
set_option linter.unusedSimpArgs false

/-! ### a map, told as a function -/
def rawR (v : Value) : Option (DataW Value × List MemPlace) := some (.held v, [])
def MapF (W : World) (P : Program) (k : TypeId) (b n : Nat) (F : Lit → Option Value) : Prop :=
  ∃ D : DataW Value, W.ownsMap P k rawR b n D ∧ IsMap D ∧ ∀ l z, D.atKey l z = match F l with | some v => .held v | none => z
section
variable {P : Program} {k t e : TypeId} {W W1 : World} {b n : Nat} {F : Lit → Option Value} {key val z : Value} {kl : Lit}
theorem MapF.lt (h : MapF W P k b n F) : b < W.heap.size := by obtain ⟨D, h, _⟩ := h; exact h.lt
theorem MapF.of_block (h : MapF W P k b n F) (hb : W1.heap[b]? = W.heap[b]?) : MapF W1 P k b n F := by
  obtain ⟨D, ⟨es, clock, h1, h2⟩, h3⟩ := h
  exact ⟨D, ⟨es, clock, hb.trans h1, h2⟩, h3⟩
theorem MapF.blk (h : MapF W P k b n F) : ∃ es clock, W.heap[b]? = some (.map es clock) := by
  obtain ⟨D, ⟨es, clock, h1, h2⟩, h3⟩ := h
  exact ⟨es, clock, h1⟩
theorem MapF.made (W : World) (P : Program) (k : TypeId) : MapF (W.alloc (.map #[] 0)) P k W.heap.size 0 (fun _ => none) := ⟨.map [], World.ownsMap_made W P k rawR, ⟨[], rfl⟩, fun l z => rfl⟩
theorem MapF.look (h : MapF W P k b n F) (c : Bool) (K : Keyed P k) (ht : P.underlying t = some (.map k e)) (hz : (zeroValue e).run P W = .ok z W) (hkey : keyOf P k key = some kl) :
    (Instr.lookup t (.map (some b)) key c).run P W = .ok (match F kl with | some v => if c then .tuple #[v, .bool true] else v | none => if c then .tuple #[z, .bool false] else z) W := by
  obtain ⟨D, ⟨es, clock, hb, hF, _, rfl⟩, hm, hD⟩ := h
  rcases Maps.fit_look c K ht hz hb hF hkey with ⟨hrun, _, hat⟩ | ⟨e0, y, _, _, hrun, hRv, hat, _⟩
  · have : F kl = none := by
      have h1 := (hD kl .nil).symm.trans (hat .nil)
      cases hf : F kl with
      | none => rfl
      | some v => rw [hf] at h1; cases h1
    rw [hrun, this]
  · have : F kl = some e0.val := by
      have hy : y = (.held e0.val, []) := (Option.some.inj hRv).symm
      subst hy
      have h1 := (hD kl .nil).symm.trans (hat .nil)
      cases hf : F kl with
      | none => rw [hf] at h1; cases h1
      | some v => rw [hf] at h1; injection h1 with h1; rw [h1]
    rw [hrun, this]
theorem MapF.store (h : MapF W P k b n F) (K : Keyed P k) (ht : P.underlying t = some (.map k e)) (hn : n < maxLen) (hkey : keyOf P k key = some kl) (hkl : WideAt.IsKeyLit kl) (val : Value) :
    ∃ W' F', (Instr.mapUpdate t (.map (some b)) key val).run P W = .ok () W' ∧ MapF W' P k b (n + 1) F' ∧ F' kl = some val ∧ (∀ l, l ≠ kl → F' l = F l) ∧ W.grownBy W' (some b) := by
  classical
  obtain ⟨D, ho, hm, hD⟩ := h
  obtain ⟨W', hrun, ho', hg⟩ := ho.update K ht hn hkey (val := val) (d := .held val) (ps := []) rfl
  refine ⟨W', fun l => if l = kl then some val else F l, hrun, ⟨_, ho', hm.put _ _, fun l z => ?_⟩, if_pos rfl, fun l hl => if_neg hl, hg⟩
  by_cases hl : l = kl
  · subst hl
    rw [Maps.atKey_put_same hm hkl]
    simp
  · rw [Maps.atKey_put_other hl]
    simp only [hl, if_false]
    exact hD l z
end

/-! ### the heap -/
structure Nd where
  tag : Int
  fs : List S33
  link : Int
abbrev NM := Int → Option (Nd × Value)
def nodeVal (x : Nd × Value) : Value := .agg #[.int .i64 x.1.tag, x.2, .int .i64 x.1.link]
def WF (p : Int) : Prop := -9223372036854775808 ≤ p ∧ p ≤ 9223372036854775807
theorem WF.wf {p : Int} (h : WF p) : (Lit.int .i64 p).wf = true := by
  unfold WF at h
  simp [Lit.wf, IntKind.min, IntKind.max, IntKind.signed, IntKind.bits]
  omega
def lits (f : NM) : Lit → Option Value
  | .int .i64 p => (f p).map nodeVal
  | _ => none
def okN (b mb : Nat) (f : NM) (p : Int) (j : Nat) : Prop := j ≠ b ∧ j ≠ mb ∧ ∀ p' x, p' ≠ p → f p' = some x → some j ≠ x.2.ownBlock
/-- The heap behind block b: its map in block mb, rows made from block 'base' on. -/
structure HW (W : World) (base b mb : Nat) (half used : Int) (n : Nat) (f : NM) : Prop where
  blk : W.heap[b]? = some (.cells #[.int .i64 half, .int .i64 used, .map (some mb)] 48 (0, 0))
  map : MapF W Tryd.prog 2 mb n (lits f)
  rows : ∀ p x, f p = some x → Kd.R k33 33 W base (okN b mb f p) x.2 x.1.fs
  ge : base ≤ b ∧ base ≤ mb
  wl : ∀ p x, f p = some x → WF p ∧ WF x.1.link
/-- Where it lies. -/
def FP (b mb : Nat) (f : NM) (j : Nat) : Prop := j = b ∨ j = mb ∨ ∃ p x, f p = some x ∧ x.2.ownBlock = some j
section
variable {W W1 : World} {base b mb n : Nat} {half used : Int} {f : NM}
theorem HW.ne (h : HW W base b mb half used n f) : b ≠ mb := by
  rintro rfl
  obtain ⟨es, c, hm⟩ := h.map.blk
  rw [h.blk] at hm
  cases hm
theorem HW.lt (h : HW W base b mb half used n f) : b < W.heap.size ∧ mb < W.heap.size := ⟨(Array.getElem?_eq_some_iff.1 h.blk).1, h.map.lt⟩
theorem HW.fp_lt (h : HW W base b mb half used n f) {j : Nat} (hj : FP b mb f j) : j < W.heap.size := by
  rcases hj with rfl | rfl | ⟨p, x, hp, hx⟩
  · exact h.lt.1
  · exact h.lt.2
  · exact Kd.R_lt (h.rows p x hp) j hx
theorem HW.fp_ge (h : HW W base b mb half used n f) {j : Nat} (hj : FP b mb f j) : base ≤ j := by
  rcases hj with rfl | rfl | ⟨p, x, hp, hx⟩
  · exact h.ge.1
  · exact h.ge.2
  · exact Kd.R_base (h.rows p x hp) j hx
/-- What leaves its blocks leaves it. -/
theorem HW.step (h : HW W base b mb half used n f) (hk : ∀ j, FP b mb f j → W1.heap[j]? = W.heap[j]?) : HW W1 base b mb half used n f where
  blk := (hk b (.inl rfl)).trans h.blk
  map := h.map.of_block (hk mb (.inr (.inl rfl)))
  rows := fun p x hp => by
    have h1 : Kd.R k33 33 W base (fun j => okN b mb f p j ∧ x.2.ownBlock = some j) x.2 x.1.fs := by
      obtain ⟨h0, inner, ho, hr⟩ := h.rows p x hp
      refine ⟨fun j hj => ⟨h0 j hj, hj⟩, inner, ho, ?_⟩
      exact hr.imp_ (fun _ _ hm => by rw [k33_openM hm]; exact k33_mkM _ _ _ _)
    exact Kd.R_mono (Kd.R_step h1 (fun j hj _ => hk j (.inr (.inr ⟨p, x, hp, hj.2⟩)))) (fun j hj => hj.1)
  ge := h.ge
  wl := h.wl
theorem HW.below (h : HW W base b mb half used n f) (hb : Below W.heap.size W W1) : HW W1 base b mb half used n f := h.step (fun j hj => hb.block j (h.fp_lt hj))
theorem HW.cells (h : HW W base b mb half used n f) : W.cell? ⟨b, 0, none⟩ = some (.int .i64 half) ∧ W.cell? ⟨b, 1, none⟩ = some (.int .i64 used) ∧ W.cell? ⟨b, 2, none⟩ = some (.map (some mb)) ∧ ∀ j, W.frozen? ⟨b, j, none⟩ = false :=
  ⟨(blk_cell h.blk 0).trans rfl, (blk_cell h.blk 1).trans rfl, (blk_cell h.blk 2).trans rfl, blk_frozen h.blk⟩
theorem keyed2 : Keyed Tryd.prog 2 := Maps.int_keyed Tryd.underlying2
theorem key2 {p : Int} (hp : WF p) : keyOf Tryd.prog 2 (.int .i64 p) = some (.int .i64 p) := Maps.keyOf_int_mk Tryd.underlying2 hp.wf
theorem zero54 (W : World) : (zeroValue 54).run Tryd.prog W = .ok (.agg #[.int .i64 0, .slice none 0 0, .int .i64 0]) W := by kernel_rfl
theorem HW.look (h : HW W base b mb half used n f) {p : Int} (hp : WF p) (c : Bool) : (Instr.lookup 46 (.map (some mb)) (.int .i64 p) c).run Tryd.prog W = .ok (match f p with | some x => if c then .tuple #[nodeVal x, .bool true] else nodeVal x | none => if c then .tuple #[.agg #[.int .i64 0, .slice none 0 0, .int .i64 0], .bool false] else .agg #[.int .i64 0, .slice none 0 0, .int .i64 0]) W := by
  have := h.map.look c keyed2 Tryd.underlying46 (zero54 W) (key2 hp)
  rw [this]
  simp only [lits]
  cases f p <;> rfl
/-! ### is, may -/
set_option maxHeartbeats 2000000 in
theorem is_calls (h : HW W base b mb half used n f) {p : Int} (hp : WF p) : Calls Tryd.prog 26 #[.pointer (some ⟨b, 0, none⟩), .int .i64 p] W fun e W' => e = .returned (.bool (f p).isSome) ∧ Below W.heap.size W W' := by
  obtain ⟨_, _, hc, _⟩ := h.cells
  have hl := h.look hp true
  cases hf : f p with
  | some x =>
    obtain ⟨nd, v⟩ := x
    obtain ⟨A, c, hv⟩ := Kd.R_slice (h.rows p _ hf)
    simp only at hv
    subst hv
    rw [hf] at hl
    simp only [if_true, nodeVal] at hl
    clear h
    go_enter Tryd.func26, Tryd.ntmps26
    go_wp2
    go_ret
    exact ⟨rfl, below_alloc (Below.refl _ _) _⟩
  | none =>
    rw [hf] at hl
    simp only [if_true] at hl
    clear h
    go_enter Tryd.func26, Tryd.ntmps26
    go_wp2
    go_ret
    exact ⟨rfl, below_alloc (Below.refl _ _) _⟩
def mayB (f : NM) (w : S33) : Bool := !w.f0 || (f w.f1).isSome
set_option maxHeartbeats 2000000 in
theorem may_calls (h : HW W base b mb half used n f) (w : S33) (hp : w.f0 = true → WF w.f1) : Calls Tryd.prog 23 #[.pointer (some ⟨b, 0, none⟩), .agg #[.bool w.f0, .int .i64 w.f1]] W fun e W' => e = .returned (.bool (mayB f w)) ∧ Below W.heap.size W W' := by
  obtain ⟨pl, N⟩ := w
  have hb : Below W.heap.size W (W.alloc (.cells #[.bool pl, .int .i64 N] 33)) := below_alloc (Below.refl _ _) _
  cases pl with
  | false =>
    simp only [mayB]
    go_enter Tryd.func23, Tryd.ntmps23
    go_wp2
    go_ret
    exact ⟨rfl, hb⟩
  | true =>
    have C := is_calls (h.below hb) (hp rfl)
    simp only [mayB]
    clear h hp
    go_enter Tryd.func23, Tryd.ntmps23
    go_wp2_with (go_at_call 26; refine C.mono ?_; rintro e w1 ⟨rfl, hb1⟩)
    go_ret
    exact ⟨by simp, below_step hb hb1⟩
set_option maxHeartbeats 2000000 in
theorem not_calls (h : HW W base b mb half used n f) (w : S33) (hp : w.f0 = true → WF w.f1) (bx : Nat) (hx : W.cell? ⟨bx, 0, none⟩ = some (.pointer (some ⟨b, 0, none⟩))) :
    Calls Tryd.prog 22 #[.agg #[.bool w.f0, .int .i64 w.f1], .pointer (some ⟨bx, 0, none⟩)] W fun e W' => e = .returned (.bool (!mayB f w)) ∧ Below W.heap.size W W' := by
  have hb : Below W.heap.size W (W.alloc (.cells #[.bool w.f0, .int .i64 w.f1] 33)) := below_alloc (Below.refl _ _) _
  have C := may_calls (h.below hb) w hp
  have hx2 := (World.cell?_alloc_lt W (.cells #[.bool w.f0, .int .i64 w.f1] 33) _ (World.block_lt_of_cell? _ _ hx)).trans hx
  clear h hp hx
  go_enter Tryd.func22, Tryd.ntmps22
  go_wp2_with (go_at_call 23; refine C.mono ?_; rintro e w1 ⟨rfl, hb1⟩)
  go_ret
  exact ⟨rfl, below_step hb hb1⟩
theorem ptr_calls (h : HW W base b mb half used n f) : Calls Tryd.prog 12 #[.pointer (some ⟨b, 0, none⟩)] W fun e W' => e = .returned (.int .i64 used) ∧ W = W' := by
  obtain ⟨hc0, hc1, _, _⟩ := h.cells
  clear h
  go_enter Tryd.func12, Tryd.ntmps12
  go_wp2
  go_ret
  exact ⟨rfl, rfl⟩
theorem half_calls (h : HW W base b mb half used n f) : Calls Tryd.prog 13 #[.pointer (some ⟨b, 0, none⟩)] W fun e W' => e = .returned (.int .i64 half) ∧ W = W' := by
  obtain ⟨hc0, hc1, _, _⟩ := h.cells
  clear h
  go_enter Tryd.func13, Tryd.ntmps13
  go_wp2
  go_ret
  exact ⟨rfl, rfl⟩
/-! ### any of words that may not be -/
def badB (f : NM) (ws : List S33) : Bool := ws.any fun w => !mayB f w
def WFs (ws : List S33) : Prop := ∀ w ∈ ws, w.f0 = true → WF w.f1
set_option maxHeartbeats 4000000 in
set_option maxRecDepth 100000 in
theorem contains_calls (h : HW W base b mb half used n f) (ws : List S33) (hws : WFs ws) {A : Option Addr} {c : Nat} (hC : Kd.C k33 W A ws.length ws) (bx : Nat) (hx : W.cell? ⟨bx, 0, none⟩ = some (.pointer (some ⟨b, 0, none⟩))) :
    Calls Tryd.prog 21 #[.slice A ws.length c, .func (.func 22) #[] #[.pointer (some ⟨bx, 0, none⟩)]] W fun e W' => e = .returned (.bool (badB f ws)) ∧ Below W.heap.size W W' := by
  have h9 := Aside0.mk h
  have hw9 := Aside0.mk hws
  have hC9 := Aside0.mk hC
  have hx9 := Aside0.mk hx
  have hm := hC.2.1
  clear h hws hC hx
  go_enter Tryd.func21, Tryd.ntmps21
  go_wp2
  go_loopg [8] (ws.length + 1) (fun kq v8 w' => ∃ i : Nat, v8 = .int .i64 (i : Int) ∧ i + kq = ws.length + 1 ∧ 1 ≤ kq ∧ Aside0 (badB f (ws.drop i) = badB f ws) ∧ Aside0 (Below W.heap.size W w'))
  case atStart => exact ⟨0, rfl, by omega, by omega, ⟨rfl⟩, ⟨Below.refl _ _⟩⟩
  case round =>
    obtain ⟨i, rfl, hi, hk, hs, hb⟩ := hrel
    by_cases hlt : i < ws.length
    · obtain ⟨a1, rfl, hv0, hv1⟩ := at_T33 (Kd.C_below hC9.out hb.out) (i : Int) (by omega) (by omega)
      have hx : rd_T33 ws (i : Int) = ws[i] := by simp [rd_T33, hlt]
      simp only [Int.toNat_natCast] at hv0 hv1
      rw [hx] at hv0 hv1
      have p0 : 0 ≤ (i : Int) := by omega
      have q0 : (i : Int) < (ws.length : Int) := by omega
      have q1 : decide ((i : Int) < (ws.length : Int)) = true := decide_eq_true q0
      have C := not_calls (h9.out.below hb.out) ws[i] (hw9.out _ (List.getElem_mem hlt)) bx ((hb.out.cell (World.block_lt_of_cell? _ _ hx9.out)).trans hx9.out)
      have hd : badB f (ws.drop i) = (!mayB f ws[i] || badB f (ws.drop (i + 1))) := by
        rw [List.drop_eq_getElem_cons hlt]; rfl
      generalize ws[i] = x at *
      have hd := Aside0.mk hd
      cases hmay : mayB f x with
      | true =>
        rw [hmay] at C
        go_wp2_with (go_at_call 22; refine C.mono ?_; rintro e w1 ⟨rfl, hb1⟩; have hB1 := Aside0.mk (below_step hb.out hb1); clear hb1)
        go_roundg (gk - 1)
        case measure => omega
        case rel => exact ⟨i + 1, by go_num, by omega, by omega, ⟨by have := hd.out; rw [hmay] at this; rw [← hs.out, this]; simp⟩, hB1⟩
      | false =>
        rw [hmay] at C
        have hr := Aside0.mk (show badB f ws = true by rw [← hs.out, hd.out, hmay]; rfl)
        go_wp2_with (go_at_call 22; refine C.mono ?_; rintro e w1 ⟨rfl, hb1⟩; have hB1 := Aside0.mk (below_step hb.out hb1); clear hb1)
        go_ret
        exact ⟨by rw [hr.out]; simp, hB1.out⟩
    · have q1 : decide ((i : Int) < (ws.length : Int)) = false := decide_eq_false (by omega)
      have hr := Aside0.mk (show badB f ws = false by rw [← hs.out, List.drop_eq_nil_of_le (by omega)]; rfl)
      go_wp2
      go_ret
      exact ⟨by rw [hr.out]; simp, hb.out⟩
/-! ### the end along links -/
def EndsN (f : NM) : Nat → Int → Int → Prop
  | 0, p, q => p = q ∧ ∃ x, f p = some x ∧ x.1.link < 0
  | k + 1, p, q => ∃ x, f p = some x ∧ 0 ≤ x.1.link ∧ EndsN f k x.1.link q
theorem EndsN.is {f : NM} {k : Nat} {p q : Int} (h : EndsN f k p q) : ∃ x, f p = some x := by
  cases k with
  | zero => obtain ⟨_, x, h, _⟩ := h; exact ⟨x, h⟩
  | succ k => obtain ⟨x, h, _⟩ := h; exact ⟨x, h⟩
theorem EndsN.last {f : NM} : ∀ {k : Nat} {p q : Int}, EndsN f k p q → ∃ x, f q = some x ∧ x.1.link < 0
  | 0, p, q, h => by obtain ⟨rfl, h⟩ := h; exact h
  | k + 1, p, q, h => by obtain ⟨x, _, _, h⟩ := h; exact EndsN.last h
theorem field54 (tag link : Int) (v : Value) (w : World) : (Instr.field 54 (.agg #[.int .i64 tag, v, .int .i64 link]) 2).run Tryd.prog w = .ok (.int .i64 link) w := by kernel_rfl
set_option maxHeartbeats 4000000 in
set_option maxRecDepth 100000 in
theorem end_calls (h : HW W base b mb half used n f) {k : Nat} {p q : Int} (he : EndsN f k p q) :
    Calls Tryd.prog 27 #[.pointer (some ⟨b, 0, none⟩), .int .i64 p] W fun e W' => e = .returned (.int .i64 q) ∧ W = W' := by
  obtain ⟨_, _, hc2, _⟩ := h.cells
  have h9 := Aside0.mk h
  have he9 := Aside0.mk he
  clear h he
  go_enter Tryd.func27, Tryd.ntmps27
  go_wp2
  go_loopg [1] (k + 1) (fun kq v1 w' => ∃ (p' : Int) (k' : Nat), v1 = .int .i64 p' ∧ kq = k' + 1 ∧ Aside0 (EndsN f k' p' q) ∧ w' = W)
  case atStart => exact ⟨p, k, rfl, rfl, he9, rfl⟩
  case round =>
    obtain ⟨p', k', rfl, hk, hE, rfl⟩ := hrel
    obtain ⟨x, hx⟩ := hE.out.is
    have hl := h9.out.look (h9.out.wl p' x hx).1 false
    obtain ⟨nd, v⟩ := x
    obtain ⟨A, c, hv⟩ := Kd.R_slice (h9.out.rows p' _ hx)
    simp only at hv
    subst hv
    rw [hx] at hl
    simp only [nodeVal] at hl
    have hfd := field54 nd.tag nd.link (.slice A nd.fs.length c) wr
    cases k' with
    | zero =>
      obtain ⟨rfl, x2, hx2, hlt⟩ := hE.out
      obtain rfl := Option.some.inj (hx.symm.trans hx2)
      have hlt : nd.link < 0 := hlt
      have q1 : decide (0 ≤ nd.link) = false := decide_eq_false (by omega)
      clear hx hx2 hlt
      go_wp2
      go_ret
      exact ⟨rfl, rfl⟩
    | succ k' =>
      obtain ⟨x2, hx2, hge, hn⟩ := hE.out
      obtain rfl := Option.some.inj (hx.symm.trans hx2)
      have hge : 0 ≤ nd.link := hge
      have hn := Aside0.mk hn
      clear hx hx2
      go_wp2
      go_roundg (gk - 1)
      case measure => omega
      case rel => exact ⟨nd.link, k', rfl, by omega, hn, rfl⟩
end
end Go.Proofs.YtepaddjjdhpmpaaDoor.HeapA
