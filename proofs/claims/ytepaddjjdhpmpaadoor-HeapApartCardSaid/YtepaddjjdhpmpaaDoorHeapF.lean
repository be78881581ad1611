/- (*Heap).Collect's move: the state of a collection, and its three ways. No condition beyond those that each states. -/
import Derived.Test.YtepaddjjdhpmpaaDoorHeapE
namespace Go.Proofs.YtepaddjjdhpmpaaDoor.HeapA
open Go.RowKit Go.Proofs.YtepaddjjdhpmpaaDoorW.PrintWords Go.Proofs.YtepaddjjdhpmpaaDoorW.PrintLast Go.Proofs.YtepaddjjdhpmpaaDoorW.PrintMore Go.Proofs.YtepaddjjdhpmpaaDoor.HeapK Go.Proofs.YtepaddjjdhpmpaaDoor.PHeapP
open Go.Maps (Keyed has IsMap)
set_option linter.unusedVariables false
set_option linter.unusedSimpArgs false
def litsV (mv : Int → Option Int) : Lit → Option Value
  | .int .i64 p => (mv p).map (.int .i64 ·)
  | _ => none
def updV (mv : Int → Option Int) (p q : Int) : Int → Option Int := fun x => if x = p then some q else mv x
theorem litsV_upd {mv : Int → Option Int} {p q : Int} {F : Lit → Option Value} (h1 : F (.int .i64 p) = some (.int .i64 q)) (h2 : ∀ l, l ≠ .int .i64 p → F l = litsV mv l) : F = litsV (updV mv p q) := by
  funext l
  by_cases hl : l = .int .i64 p
  · subst hl
    rw [h1]
    simp [litsV, updV]
  · rw [h2 l hl]
    cases l with
    | int k x =>
      cases k with
      | i64 =>
        have : x ≠ p := fun e => hl (by rw [e])
        simp only [litsV, updV, if_neg this]
      | _ => rfl
    | _ => rfl
/-- A collection under way: what is taken, how often its maps were written, the moved nodes, where each went, their order. -/
structure CS where
  nu : Int
  nn : Nat
  g : NM
  vn : Nat
  mv : Int → Option Int
  ord : List Int
abbrev kI : Kd Int := Kd.int .i64
def FC (c : CS) (v : Value) (j : Nat) : Prop := v.ownBlock = some j ∨ ∃ p x, c.g p = some x ∧ x.2.ownBlock = some j
structure CW (W : World) (base b mb : Nat) (half used : Int) (n : Nat) (f : NM) (s : Nat) (c : CS) (v : Value) : Prop where
  h : HW W base b mb half used n f
  old : ∀ j, FP b mb f j → j < s
  nx : HW W s (s + 2) (s + 1) half c.nu c.nn c.g
  new : ∀ p x, c.g p = some x → ∀ j, x.2.ownBlock = some j → s + 7 ≤ j
  mv : MapF W Tryd.prog 2 (s + 4) c.vn (litsV c.mv)
  b2 : W.heap[s]? = some (.cells #[.pointer (some ⟨b, 0, none⟩)] 24 (0, 0))
  b5 : W.heap[s + 3]? = some (.cells #[.pointer (some ⟨s + 2, 0, none⟩)] 24 (0, 0))
  b6 : W.heap[s + 5]? = some (.cells #[.map (some (s + 4))] 55 (0, 0))
  b7 : W.heap[s + 6]? = some (.cells #[v] 56 (0, 0))
  ov : Kd.R kI 2 W s (fun j => s + 7 ≤ j ∧ ∀ p x, c.g p = some x → x.2.ownBlock ≠ some j) v c.ord
section
variable {W W1 : World} {base b mb n s : Nat} {half used : Int} {f : NM} {c : CS} {v : Value}
theorem CW.step (h : CW W base b mb half used n f s c v) (hk : ∀ j, j < W.heap.size → j < s + 7 ∨ FC c v j → W1.heap[j]? = W.heap[j]?) : CW W1 base b mb half used n f s c v := by
  have lt7 : s + 6 < W.heap.size := (Array.getElem?_eq_some_iff.1 h.b7).1
  have k7 : ∀ j, j < s + 7 → W1.heap[j]? = W.heap[j]? := fun j hj => hk j (by omega) (.inl hj)
  refine ⟨h.h.step (fun j hj => k7 j (by have := h.old j hj; omega)), h.old, h.nx.step (fun j hj => ?_), h.new, h.mv.of_block (k7 _ (by omega)), (k7 _ (by omega)).trans h.b2, (k7 _ (by omega)).trans h.b5, (k7 _ (by omega)).trans h.b6, (k7 _ (by omega)).trans h.b7, ?_⟩
  · rcases hj with rfl | rfl | ⟨p, x, hp, hx⟩
    · exact k7 _ (by omega)
    · exact k7 _ (by omega)
    · exact hk j (Kd.R_lt (h.nx.rows p x hp) j hx) (.inr (.inr ⟨p, x, hp, hx⟩))
  · have h1 := h.ov
    have h2 : Kd.R kI 2 W s (fun j => (s + 7 ≤ j ∧ ∀ p x, c.g p = some x → x.2.ownBlock ≠ some j) ∧ v.ownBlock = some j) v c.ord := by
      obtain ⟨h0, inner, ho, hr⟩ := h1
      exact ⟨fun j hj => ⟨h0 j hj, hj⟩, inner, ho, hr⟩
    exact Kd.R_mono (Kd.R_step h2 (fun j hj hlt => hk j hlt (.inr (.inl hj.2)))) (fun j hj => hj.1)
theorem CW.below (h : CW W base b mb half used n f s c v) (hb : Below W.heap.size W W1) : CW W1 base b mb half used n f s c v := h.step (fun j hj _ => hb.block j hj)
theorem CW.lt (h : CW W base b mb half used n f s c v) : s + 6 < W.heap.size := (Array.getElem?_eq_some_iff.1 h.b7).1
theorem CW.fc_lt (h : CW W base b mb half used n f s c v) {j : Nat} (hj : FC c v j) : j < W.heap.size := by
  rcases hj with hj | ⟨p, x, hp, hx⟩
  · exact Kd.R_lt h.ov j hj
  · exact Kd.R_lt (h.nx.rows p x hp) j hx
theorem CW.fc_ge (h : CW W base b mb half used n f s c v) {j : Nat} (hj : FC c v j) : s + 7 ≤ j := by
  rcases hj with hj | ⟨p, x, hp, hx⟩
  · exact (h.ov.1 j hj).1
  · exact h.new p x hp j hx
theorem CW.add (h : CW W base b mb half used n f s c v) {p : Int} {nd : Nd} {u : Value} {F7 : Lit → Option Value} (hM : MapF W1 Tryd.prog 2 (s + 1) (c.nn + 1) F7) (h1 : F7 (.int .i64 p) = some (nodeVal (nd, u))) (h2 : ∀ l, l ≠ .int .i64 p → F7 l = lits c.g l) (hg : W.grownBy W1 (some (s + 1)))
    {B : Nat} (hB : s + 7 ≤ B) (hfc : ∀ j, FC c v j → j < B) (hR : Kd.R k33 33 W B (fun _ => True) u nd.fs) (hp : WF p) (hl : WF nd.link) : CW W1 base b mb half used n f s { c with nn := c.nn + 1, g := updM c.g p (nd, u) } v := by
  have hlt := h.lt
  have hfr : ∀ j, u.ownBlock = some j → B ≤ j := fun j hj => Kd.R_base hR j hj
  have hsm : ∀ j, j < W.heap.size → j ≠ s + 1 → W1.heap[j]? = W.heap[j]? := fun j hj hn => hg.block j hj (fun e => hn (Option.some.inj e))
  refine ⟨h.h.step (fun j hj => hsm j (h.h.fp_lt hj) (by have := h.old j hj; omega)), h.old, ?_, fun p' x' hx' j hj => ?_, h.mv.of_block (hsm _ (by omega) (by omega)), (hsm _ (by omega) (by omega)).trans h.b2, (hsm _ (by omega) (by omega)).trans h.b5, (hsm _ (by omega) (by omega)).trans h.b6, (hsm _ (by omega) (by omega)).trans h.b7, ?_⟩
  · exact h.nx.add hM h1 h2 hg (Kd.R_lower hR (by omega)) (fun j hj => by
      have h3 := hfr j hj
      refine ⟨by omega, by omega, fun p' x' _ hx' e => ?_⟩
      have := hfc j (.inr ⟨p', x', hx', e.symm⟩)
      omega) hp hl
  · by_cases hpp : p' = p
    · subst hpp
      replace hx' : updM c.g p' (nd, u) p' = some x' := hx'
      rw [updM_same] at hx'
      obtain rfl := Option.some.inj hx'
      have := hfr j hj
      omega
    · replace hx' : updM c.g p (nd, u) p' = some x' := hx'
      rw [updM_ne _ _ hpp] at hx'
      exact h.new p' x' hx' j hj
  · have h3 : Kd.R kI 2 W s (fun j => (s + 7 ≤ j ∧ ∀ p x, c.g p = some x → x.2.ownBlock ≠ some j) ∧ v.ownBlock = some j) v c.ord := by
      obtain ⟨h0, inner, ho, hr⟩ := h.ov
      exact ⟨fun j hj => ⟨h0 j hj, hj⟩, inner, ho, hr⟩
    refine Kd.R_mono (Kd.R_step h3 (fun j hj hlt => hsm j hlt (by have := hj.1.1; omega))) (fun j hj => ⟨hj.1.1, fun p' x' hx' => ?_⟩)
    by_cases hpp : p' = p
    · subst hpp
      replace hx' : updM c.g p' (nd, u) p' = some x' := hx'
      rw [updM_same] at hx'
      obtain rfl := Option.some.inj hx'
      intro e
      have := hfr j e
      have := hfc j (.inl hj.2)
      omega
    · replace hx' : updM c.g p (nd, u) p' = some x' := hx'
      rw [updM_ne _ _ hpp] at hx'
      exact hj.1.2 p' x' hx'
theorem CW.blks (h : CW W base b mb half used n f s c v) (i : Nat) (hi : i = s + 1 ∨ i = s + 2 ∨ i = s + 4 ∨ i = s + 6) (hsm : ∀ j, j < W.heap.size → j ≠ i → W1.heap[j]? = W.heap[j]?) :
    HW W1 base b mb half used n f ∧ (∀ p x, c.g p = some x → Kd.R k33 33 W1 s (okN (s + 2) (s + 1) c.g p) x.2 x.1.fs) ∧ Kd.R kI 2 W1 s (fun j => s + 7 ≤ j ∧ ∀ p x, c.g p = some x → x.2.ownBlock ≠ some j) v c.ord := by
  have hlt := h.lt
  refine ⟨h.h.step (fun j hj => hsm j (h.h.fp_lt hj) (by have := h.old j hj; omega)), fun p x hx => ?_, ?_⟩
  · have hr := h.nx.rows p x hx
    exact R33_step hr (fun j hj => hsm j (Kd.R_lt hr j hj) (by have := h.new p x hx j hj; omega)) hr.1
  · have h3 : Kd.R kI 2 W s (fun j => (s + 7 ≤ j ∧ ∀ p x, c.g p = some x → x.2.ownBlock ≠ some j) ∧ v.ownBlock = some j) v c.ord := by
      obtain ⟨h0, inner, ho, hr⟩ := h.ov
      exact ⟨fun j hj => ⟨h0 j hj, hj⟩, inner, ho, hr⟩
    exact Kd.R_mono (Kd.R_step h3 (fun j hj hlt => hsm j hlt (by have := hj.1.1; omega))) (fun j hj => hj.1)
theorem CW.setU (h : CW W base b mb half used n f s c v) (u' : Int) : CW (W.setCell ⟨s + 2, 1, none⟩ (.int .i64 u')) base b mb half used n f s { c with nu := u' } v := by
  have hlt := h.lt
  have hsm : ∀ j, j < W.heap.size → j ≠ s + 2 → (W.setCell ⟨s + 2, 1, none⟩ (.int .i64 u')).heap[j]? = W.heap[j]? := fun j _ hn => Below.heap_setCell W _ _ j hn
  obtain ⟨k1, k2, k3⟩ := h.blks (s + 2) (by omega) hsm
  exact ⟨k1, h.old, h.nx.setUsed u', h.new, h.mv.of_block (hsm _ (by omega) (by omega)), (hsm _ (by omega) (by omega)).trans h.b2, (hsm _ (by omega) (by omega)).trans h.b5, (hsm _ (by omega) (by omega)).trans h.b6, (hsm _ (by omega) (by omega)).trans h.b7, k3⟩
theorem CW.setV (h : CW W base b mb half used n f s c v) {p q : Int} {F7 : Lit → Option Value} (hM : MapF W1 Tryd.prog 2 (s + 4) (c.vn + 1) F7) (h1 : F7 (.int .i64 p) = some (.int .i64 q)) (h2 : ∀ l, l ≠ .int .i64 p → F7 l = litsV c.mv l) (hg : W.grownBy W1 (some (s + 4))) : CW W1 base b mb half used n f s { c with vn := c.vn + 1, mv := updV c.mv p q } v := by
  have hlt := h.lt
  have hsm : ∀ j, j < W.heap.size → j ≠ s + 4 → W1.heap[j]? = W.heap[j]? := fun j hj hn => hg.block j hj (fun e => hn (Option.some.inj e))
  obtain ⟨k1, k2, k3⟩ := h.blks (s + 4) (by omega) hsm
  refine ⟨k1, h.old, h.nx.step (fun j hj => hsm j (h.nx.fp_lt hj) ?_), h.new, litsV_upd h1 h2 ▸ hM, (hsm _ (by omega) (by omega)).trans h.b2, (hsm _ (by omega) (by omega)).trans h.b5, (hsm _ (by omega) (by omega)).trans h.b6, (hsm _ (by omega) (by omega)).trans h.b7, k3⟩
  rcases hj with rfl | rfl | ⟨p, x, hp, hx⟩
  · omega
  · omega
  · have := h.new p x hp j hx; omega
theorem CW.setO (h : CW W base b mb half used n f s c v) {x : Int} {v' : Value} (hR : Kd.R kI 2 W1 s (fun j => s + 7 ≤ j ∧ ∀ p x, c.g p = some x → x.2.ownBlock ≠ some j) v' (c.ord ++ [x])) (hg : W.grownBy W1 v.ownBlock) : CW (W1.setCell ⟨s + 6, 0, none⟩ v') base b mb half used n f s { c with ord := c.ord ++ [x] } v' := by
  have hlt := h.lt
  have hsm : ∀ j, j < W.heap.size → j ≠ s + 6 → v.ownBlock ≠ some j → (W1.setCell ⟨s + 6, 0, none⟩ v').heap[j]? = W.heap[j]? := fun j hj hn hv => (Below.heap_setCell W1 _ _ j hn).trans (hg.block j hj (fun e => hv e.symm))
  have hv7 : ∀ j, j < s + 7 → v.ownBlock ≠ some j := fun j hj e => by have := (h.ov.1 j e).1; omega
  refine ⟨h.h.step (fun j hj => ?_), h.old, h.nx.step (fun j hj => ?_), h.new, h.mv.of_block (hsm _ (by omega) (by omega) (hv7 _ (by omega))), (hsm _ (by omega) (by omega) (hv7 _ (by omega))).trans h.b2, (hsm _ (by omega) (by omega) (hv7 _ (by omega))).trans h.b5, (hsm _ (by omega) (by omega) (hv7 _ (by omega))).trans h.b6, ?_, ?_⟩
  · have := h.old j hj
    exact hsm j (h.h.fp_lt hj) (by omega) (hv7 _ (by omega))
  · rcases hj with rfl | rfl | ⟨p, x, hp, hx⟩
    · exact hsm _ (by omega) (by omega) (hv7 _ (by omega))
    · exact hsm _ (by omega) (by omega) (hv7 _ (by omega))
    · have := h.new p x hp j hx
      exact hsm _ (h.nx.fp_lt (.inr (.inr ⟨p, x, hp, hx⟩))) (by omega) (fun e => (h.ov.1 j e).2 p x hp hx)
  · exact blk_put ((hg.block (s + 6) (by omega) (fun e => hv7 _ (by omega) e.symm)).trans h.b7) 0 v' rfl
  · have h3 : Kd.R kI 2 W1 s (fun j => (s + 7 ≤ j ∧ ∀ p x, c.g p = some x → x.2.ownBlock ≠ some j) ∧ v'.ownBlock = some j) v' (c.ord ++ [x]) := by
      obtain ⟨h0, inner, ho, hr⟩ := hR
      exact ⟨fun j hj => ⟨h0 j hj, hj⟩, inner, ho, hr⟩
    exact Kd.R_mono (Kd.R_step h3 (fun j hj _ => Below.heap_setCell W1 _ _ j (by have := hj.1.1; show j ≠ s + 6; omega))) (fun j hj => hj.1)
abbrev mvArgs (w : S33) (s : Nat) : Array Value := #[.agg #[.bool w.f0, .int .i64 w.f1], .pointer (some ⟨s, 0, none⟩), .pointer (some ⟨s + 5, 0, none⟩), .pointer (some ⟨s + 3, 0, none⟩), .pointer (some ⟨s + 6, 0, none⟩)]
set_option maxHeartbeats 4000000 in
theorem move_num (N : Int) (a1 a2 a3 a4 : Value) : Calls Tryd.prog 25 #[.agg #[.bool false, .int .i64 N], a1, a2, a3, a4] W fun e W' => e = .returned (.agg #[.bool false, .int .i64 N]) ∧ Below W.heap.size W W' := by
  go_enter Tryd.func25, Tryd.ntmps25
  go_wp2
  refine bodyPost_ret (v := .agg #[.bool false, .int .i64 N]) (by simp [results, Tryd.results25, go_sem]) rfl ⟨rfl, ?_⟩
  exact below_alloc (below_alloc (Below.refl _ _) _) _
theorem Mod.drew {W W' : World} {S : Nat → Prop} (h : Mod W W' S) : Mod W W'.drew S := ⟨h.os, h.tape, h.output, h.size, h.block⟩
theorem Mod.of_own {W W' : World} {v : Value} (h : W.grownBy W' v.ownBlock) : Mod W W' (fun j => v.ownBlock = some j) := ⟨h.os, h.tape, h.output, h.size, fun i hi hn => h.block i hi (fun e => hn e.symm)⟩
theorem info2 : (Tryd.prog.info? 2).map (fun i => (i.zero, i.size, i.bytes)) = some (some (.int .i64 0), 1, 8) := by kernel_rfl
theorem zero2 (W : World) : (zeroValue 2).run Tryd.prog W = .ok (.int .i64 0) W := by kernel_rfl
theorem lookV {vb m : Nat} {mv : Int → Option Int} (h : MapF W Tryd.prog 2 vb m (litsV mv)) {p : Int} (hp : WF p) : (Instr.lookup 55 (.map (some vb)) (.int .i64 p) true).run Tryd.prog W = .ok (match mv p with | some q => .tuple #[.int .i64 q, .bool true] | none => .tuple #[.int .i64 0, .bool false]) W := by
  have := h.look true keyed2 Tryd.underlying55 (zero2 W) (key2 hp)
  rw [this]
  simp only [litsV]
  cases mv p <;> rfl
set_option maxHeartbeats 8000000 in
set_option maxRecDepth 100000 in
theorem move_old (h : CW W base b mb half used n f s c v) {N q d : Int} {k : Nat} (he : EndsN f k N q) (hm : c.mv q = some d) :
    Calls Tryd.prog 25 (mvArgs ⟨true, N⟩ s) W fun e W' => e = .returned (.agg #[.bool true, .int .i64 d]) ∧ Below W.heap.size W W' := by
  obtain ⟨x, hx⟩ := he.is
  obtain ⟨y, hy, _⟩ := he.last
  have hwN := (h.h.wl N x hx).1
  have hwq := Aside0.mk (h.h.wl q y hy).1
  have HB0 : Aside0 (Below W.heap.size W ((W.alloc (.cells #[.bool true, .int .i64 N] 33)).alloc (.cells #[.bool false, .int .i64 0] 33))) := ⟨below_alloc (below_alloc (Below.refl _ _) _) _⟩
  have hbx := Aside0.mk (blk_alloc (blk_new W (.cells #[.bool true, .int .i64 N] 33 (0, 0))) (.cells #[.bool false, .int .i64 0] 33))
  have hby := Aside0.mk (show ((W.alloc (.cells #[.bool true, .int .i64 N] 33)).alloc (.cells #[.bool false, .int .i64 0] 33)).heap[W.heap.size + 1]? = some (.cells #[.bool false, .int .i64 0] 33 (0, 0)) from by
    have h := blk_new (W.alloc (.cells #[.bool true, .int .i64 N] 33)) (.cells #[.bool false, .int .i64 0] 33)
    rwa [show (W.alloc (.cells #[.bool true, .int .i64 N] 33)).heap.size = W.heap.size + 1 from Array.size_push _] at h)
  have H0 := h.below HB0.out
  have CI := is_calls H0.h hwN
  rw [hx] at CI
  have hb0 := (blk_cell H0.b2 0).trans rfl
  have hc0 := (blk_cell hbx.out 0).trans rfl
  have hc1 := (blk_cell hbx.out 1).trans rfl
  have h9 := Aside0.mk h
  have he := Aside0.mk he
  have hm9 := Aside0.mk hm
  clear h hx hy hm H0
  go_enter Tryd.func25, Tryd.ntmps25
  go_wp2_with (first | (go_at_call 26; (with_reducible refine CI.mono ?_); rintro e w1 ⟨rfl, hb1⟩; have HB1 := Aside0.mk (below_step HB0.out hb1); have H1 := h9.out.below HB1.out; have hbx1 := blk_below hbx.out hb1; have hby1 := blk_below hby.out hb1; have hr0 := (blk_cell hby1 0).trans rfl; have hr1 := (blk_cell hby1 1).trans rfl; have hf0 := blk_frozen hby1 0; have hf1 := blk_frozen hby1 1; have hby1 := Aside0.mk hby1; have hd0 := (blk_cell H1.b2 0).trans rfl; have hd1 := (blk_cell hbx1 1).trans rfl; have CE := end_calls H1.h he.out; have hd6 := (blk_cell H1.b6 0).trans rfl; have hlk := lookV H1.mv hwq.out; rw [hm9.out] at hlk; clear hb1 H1 hbx1) | (go_at_call 27; (with_reducible refine CE.mono ?_); rintro e w3 ⟨rfl, rfl⟩))
  have hbz := blk_put (blk_put hby1.out 0 (.bool true) rfl) 1 (.int .i64 d) rfl
  have z0 := (blk_cell hbz 0).trans rfl
  have z1 := (blk_cell hbz 1).trans rfl
  refine bodyPost_ret (v := .agg #[.bool true, .int .i64 d]) (by simp [results, Tryd.results25, go_sem, z0, z1]) rfl ⟨rfl, (HB1.out.setCell (Nat.le_succ _) _).setCell (Nat.le_succ _) _⟩
/-- A node more that is moved. -/
def CS.more (c : CS) (q : Int) (nd : Nd) (u : Value) : CS := ⟨c.nu + szI nd.fs.length, c.nn + 1, updM c.g c.nu (⟨nd.tag, nd.fs, -1⟩, u), c.vn + 1, updV c.mv q c.nu, c.ord ++ [c.nu]⟩
def FCm (s : Nat) (c : CS) (v : Value) (j : Nat) : Prop := j = s + 1 ∨ j = s + 2 ∨ j = s + 4 ∨ j = s + 6 ∨ v.ownBlock = some j
set_option maxHeartbeats 16000000 in
set_option maxRecDepth 100000 in
theorem move_new (h : CW W base b mb half used n f s c v) {N q : Int} {k : Nat} (he : EndsN f k N q) (hm : c.mv q = none) {nd : Nd} {z : Value} (hq : f q = some (nd, z)) (hl : nd.fs.length ≤ 100000) (hu0 : 0 ≤ c.nu) (hu1 : c.nu ≤ 10000000) (hn : c.nn < maxLen) (hvn : c.vn < maxLen) (hord : (c.ord.length + 1) * 8 ≤ 140737488355328) :
    Calls Tryd.prog 25 (mvArgs ⟨true, N⟩ s) W fun e W' => e = .returned (.agg #[.bool true, .int .i64 c.nu]) ∧ ∃ u v', CW W' base b mb half used n f s (c.more q nd u) v' ∧ Mod W W' (FCm s c v) ∧ ∀ j, j < W.heap.size → FC (c.more q nd u) v' j → FC c v j := by
  obtain ⟨x, hx⟩ := he.is
  have hwN := (h.h.wl N x hx).1
  have hwq := Aside0.mk (h.h.wl q _ hq).1
  obtain ⟨A, cp, hz⟩ := Kd.R_slice (h.h.rows q _ hq)
  simp only at hz
  subst hz
  have HB0 : Aside0 (Below W.heap.size W ((W.alloc (.cells #[.bool true, .int .i64 N] 33)).alloc (.cells #[.bool false, .int .i64 0] 33))) := ⟨below_alloc (below_alloc (Below.refl _ _) _) _⟩
  have hbx := Aside0.mk (blk_alloc (blk_new W (.cells #[.bool true, .int .i64 N] 33 (0, 0))) (.cells #[.bool false, .int .i64 0] 33))
  have hby := Aside0.mk (show ((W.alloc (.cells #[.bool true, .int .i64 N] 33)).alloc (.cells #[.bool false, .int .i64 0] 33)).heap[W.heap.size + 1]? = some (.cells #[.bool false, .int .i64 0] 33 (0, 0)) from by
    have h := blk_new (W.alloc (.cells #[.bool true, .int .i64 N] 33)) (.cells #[.bool false, .int .i64 0] 33)
    rwa [show (W.alloc (.cells #[.bool true, .int .i64 N] 33)).heap.size = W.heap.size + 1 from Array.size_push _] at h)
  have H0 := h.below HB0.out
  have CI := is_calls H0.h hwN
  rw [hx] at CI
  have hb0 := (blk_cell H0.b2 0).trans rfl
  have hc0 := (blk_cell hbx.out 0).trans rfl
  have hc1 := (blk_cell hbx.out 1).trans rfl
  have h9 := Aside0.mk h
  have he := Aside0.mk he
  have hm9 := Aside0.mk hm
  have hq9 := Aside0.mk hq
  have hlt := Aside0.mk h.lt
  have hl16 := Aside0.mk (show nd.fs.length * 16 ≤ 140737488355328 by omega)
  have hlm := Aside0.mk (show (nd.fs.length : Int) ≤ 1000000 by omega)
  have hwr := Aside0.mk (show wrap64 (c.nu + mx ((nd.fs.length : Int) + 2) 3) = c.nu + mx ((nd.fs.length : Int) + 2) 3 by unfold wrap64 mx; omega)
  have hwu := Aside0.mk (show WF c.nu from ⟨by omega, by omega⟩)
  have hbd := Aside0.mk (And.intro hl (And.intro hu0 (And.intro hu1 (And.intro hn (And.intro hvn hord)))))
  clear h hx hm H0 hq hl hu0 hu1 hn hvn hord
  go_enter Tryd.func25, Tryd.ntmps25
  go_wp2_with (first | (go_at_call 26; (with_reducible refine CI.mono ?_); rintro e w1 ⟨rfl, hb1⟩; have HB1 := Aside0.mk (below_step HB0.out hb1); have H1 := h9.out.below HB1.out; have hbx1 := blk_below hbx.out hb1; have hby1 := Aside0.mk (blk_below hby.out hb1); have hd0 := (blk_cell H1.b2 0).trans rfl; have hd1 := (blk_cell hbx1 1).trans rfl; have CE := end_calls H1.h he.out; have hd6 := (blk_cell H1.b6 0).trans rfl; have hlk := lookV H1.mv hwq.out; rw [hm9.out] at hlk; have hd2 := H1.h.cells.2.2.1; have hln := look9 H1.h hq9.out rfl; have H2 := H1.below (below_alloc (Below.refl _ _) (.cells #[.int .i64 nd.tag, .slice A nd.fs.length cp, .int .i64 nd.link] 54)); have hd5 := (blk_cell H2.b5 0).trans rfl; have hdu := H2.nx.cells.2.1; clear H2; clear hb1 H1 hbx1) | (go_at_call 27; (with_reducible refine CE.mono ?_); rintro e w3 ⟨rfl, rfl⟩; clear CE))
  have HB2 : Aside0 (Below W.heap.size W (w1.alloc (.cells #[.int .i64 nd.tag, .slice A nd.fs.length cp, .int .i64 nd.link] 54)).drew) := ⟨below_drew1 (below_alloc HB1.out _)⟩
  have H2 := h9.out.below HB2.out
  have hbn := blk_new w1 (.cells #[.int .i64 nd.tag, .slice A nd.fs.length cp, .int .i64 nd.link] 54 (0, 0))
  have E0 : Aside0 ((w1.alloc (.cells #[.int .i64 nd.tag, .slice A nd.fs.length cp, .int .i64 nd.link] 54)).drew.cell? ⟨s + 3, 0, none⟩ = some (.pointer (some ⟨s + 2, 0, none⟩))) := ⟨(blk_cell H2.b5 0).trans rfl⟩
  have E1 : Aside0 ((w1.alloc (.cells #[.int .i64 nd.tag, .slice A nd.fs.length cp, .int .i64 nd.link] 54)).drew.cell? ⟨s + 2, 2, none⟩ = some (.map (some (s + 1)))) := ⟨H2.nx.cells.2.2.1⟩
  have E2 : Aside0 ((w1.alloc (.cells #[.int .i64 nd.tag, .slice A nd.fs.length cp, .int .i64 nd.link] 54)).drew.cell? ⟨w1.heap.size, 0, none⟩ = some (.int .i64 nd.tag)) := ⟨(blk_cell hbn 0).trans rfl⟩
  have E3 : Aside0 ((w1.alloc (.cells #[.int .i64 nd.tag, .slice A nd.fs.length cp, .int .i64 nd.link] 54)).drew.cell? ⟨w1.heap.size, 1, none⟩ = some (.slice A nd.fs.length cp)) := ⟨(blk_cell hbn 1).trans rfl⟩
  have hbn9 : Aside0 ((w1.alloc (.cells #[.int .i64 nd.tag, .slice A nd.fs.length cp, .int .i64 nd.link] 54)).drew.heap[w1.heap.size]? = some (.cells #[.int .i64 nd.tag, .slice A nd.fs.length cp, .int .i64 nd.link] 54 (0, 0))) := ⟨hbn⟩
  have CC : Aside0 (Kd.C k33 (w1.alloc (.cells #[.int .i64 nd.tag, .slice A nd.fs.length cp, .int .i64 nd.link] 54)).drew A nd.fs.length nd.fs) := ⟨(Kd.R_reads' (H2.h.rows q _ hq9.out)).2.2⟩
  have hby2 : Aside0 ((w1.alloc (.cells #[.int .i64 nd.tag, .slice A nd.fs.length cp, .int .i64 nd.link] 54)).drew.heap[W.heap.size + 1]? = some (.cells #[.bool false, .int .i64 0] 33 (0, 0))) := ⟨blk_alloc hby1.out _⟩
  have hbz2 : Aside0 (W.heap.size + 2 ≤ (w1.alloc (.cells #[.int .i64 nd.tag, .slice A nd.fs.length cp, .int .i64 nd.link] 54)).drew.heap.size) := ⟨by have h1 := (Array.getElem?_eq_some_iff.1 hby2.out).1; omega⟩
  clear H2 hbn hc0 hc1 hb0 hd0 hd1 hd2 hd5 hd6 hdu hlk hln
  refine start_ (n := 12) (S := fun w' => w'.cell? ⟨s + 3, 0, none⟩ = some (.pointer (some ⟨s + 2, 0, none⟩)) ∧ w'.cell? ⟨s + 2, 2, none⟩ = some (.map (some (s + 1))) ∧ w'.cell? ⟨w1.heap.size, 0, none⟩ = some (.int .i64 nd.tag) ∧ w'.cell? ⟨w1.heap.size, 1, none⟩ = some (.slice A nd.fs.length cp)) (ds := [11]) #[false, false, false, false, false, false, false, false, false, false, false, false] (by kernel_rfl) rfl rfl ⟨E0.out, E1.out, E2.out, E3.out⟩ (fun hHeld => ?_)
  generalize (w1.alloc (.cells #[.int .i64 nd.tag, .slice A nd.fs.length cp, .int .i64 nd.link] 54)).drew = W9 at *
  refine pure_ (i := 4) (N := some 48) (v := ?_) (a' := ?_) #[false, false, false, false, true, false, false, false, false, false, false, false] rfl rfl (by kernel_rfl) (fun _ _ _ h => h) (Or.inl ⟨by rfl, ?_⟩) ?_ ?_
  rotate_left
  · intro w'
    go_simp
    with_reducible rfl
  rotate_left
  · simp only [Act.put, List.setIfInBounds_toArray, List.set_cons_zero, List.set_cons_succ, i64_w, i32_w]
    rfl
  refine pure_ (i := 5) (N := some 49) (v := ?_) (a' := ?_) #[false, false, false, false, true, true, false, false, false, false, false, false] rfl rfl (by kernel_rfl) (fun _ _ _ h => h) (Or.inl ⟨by rfl, ?_⟩) ?_ ?_
  rotate_left
  · intro w'
    go_simp
    with_reducible rfl
  rotate_left
  · simp only [Act.put, List.setIfInBounds_toArray, List.set_cons_zero, List.set_cons_succ, i64_w, i32_w]
    rfl
  refine pure_ (i := 7) (N := some 51) (v := ?_) (a' := ?_) #[false, false, false, false, true, true, false, true, false, false, false, false] rfl rfl (by kernel_rfl) (fun _ _ _ h => h) (Or.inl ⟨by rfl, ?_⟩) ?_ ?_
  rotate_left
  · intro w'
    go_simp
    with_reducible rfl
  rotate_left
  · simp only [Act.put, List.setIfInBounds_toArray, List.set_cons_zero, List.set_cons_succ, i64_w, i32_w]
    rfl
  refine take_ (i := 0) (N := some 44) (v := ?_) (a' := ?_) #[true, false, false, false, true, true, false, true, false, false, false, false] rfl rfl (by kernel_rfl) (fun _ _ _ h => h) (Or.inl ⟨by rfl, ?_⟩) hHeld ?_ ?_
  rotate_left
  · rintro w' ⟨s0, s1, s2, s3⟩
    go_simp
    with_reducible rfl
  rotate_left
  · simp only [Act.put, List.setIfInBounds_toArray, List.set_cons_zero, List.set_cons_succ, i64_w, i32_w]
    rfl
  refine pure_ (i := 1) (N := some 45) (v := ?_) (a' := ?_) #[true, true, false, false, true, true, false, true, false, false, false, false] rfl rfl (by kernel_rfl) (fun _ _ _ h => h) (Or.inl ⟨by rfl, ?_⟩) ?_ ?_
  rotate_left
  · intro w'
    go_simp
    with_reducible rfl
  rotate_left
  · simp only [Act.put, List.setIfInBounds_toArray, List.set_cons_zero, List.set_cons_succ, i64_w, i32_w]
    rfl
  refine pure_ (i := 2) (N := some 46) (v := ?_) (a' := ?_) #[true, true, true, false, true, true, false, true, false, false, false, false] rfl rfl (by kernel_rfl) (fun _ _ _ h => h) (Or.inl ⟨by rfl, ?_⟩) ?_ ?_
  rotate_left
  · intro w'
    go_simp
    with_reducible rfl
  rotate_left
  · simp only [Act.put, List.setIfInBounds_toArray, List.set_cons_zero, List.set_cons_succ, i64_w, i32_w]
    rfl
  refine take_ (i := 3) (N := some 47) (v := ?_) (a' := ?_) #[true, true, true, true, true, true, false, true, false, false, false, false] rfl rfl (by kernel_rfl) (fun _ _ _ h => h) (Or.inl ⟨by rfl, ?_⟩) hHeld ?_ ?_
  rotate_left
  · rintro w' ⟨s0, s1, s2, s3⟩
    go_simp
    with_reducible rfl
  rotate_left
  · simp only [Act.put, List.setIfInBounds_toArray, List.set_cons_zero, List.set_cons_succ, i64_w, i32_w]
    rfl
  refine take_ (i := 6) (N := some 50) (v := ?_) (a' := ?_) #[true, true, true, true, true, true, true, true, false, false, false, false] rfl rfl (by kernel_rfl) (fun _ _ _ h => h) (Or.inl ⟨by rfl, ?_⟩) hHeld ?_ ?_
  rotate_left
  · rintro w' ⟨s0, s1, s2, s3⟩
    go_simp
    with_reducible rfl
  rotate_left
  · simp only [Act.put, List.setIfInBounds_toArray, List.set_cons_zero, List.set_cons_succ, i64_w, i32_w]
    rfl
  refine take_ (i := 8) (N := some 52) (v := ?_) (a' := ?_) #[true, true, true, true, true, true, true, true, true, false, false, false] rfl rfl (by kernel_rfl) (fun _ _ _ h => h) (Or.inl ⟨by rfl, ?_⟩) hHeld ?_ ?_
  rotate_left
  · rintro w' ⟨s0, s1, s2, s3⟩
    go_simp
    with_reducible rfl
  rotate_left
  · simp only [Act.put, List.setIfInBounds_toArray, List.set_cons_zero, List.set_cons_succ, i64_w, i32_w]
    rfl
  refine one_ (i := 9) (N := some 53) #[true, true, true, true, true, true, true, true, true, true, false, false] rfl rfl (by kernel_rfl) (by decide) (fun K hK => ?_)
  refine goes_ Tryd.func24 (by kernel_rfl) rfl #[.slice A nd.fs.length cp] (by rfl) rfl rfl (by simp only [List.map_toArray, List.map_cons, List.map_nil]; rfl) ?_
  (with_reducible refine (clone_calls nd.fs CC.out hl16.out).mono ?_)
  rintro e w4 ⟨u, rfl, hr, hb⟩
  refine ⟨_, rfl, ?_⟩
  obtain ⟨A2, c2, hv⟩ := Kd.R_slice hr
  subst hv
  have HB3 := Aside0.mk (below_step HB2.out hb)
  have HZ := Aside0.mk hb.size
  have HR := Aside0.mk hr
  refine hK.out _ _ ⟨(hb.cell (World.block_lt_of_cell? _ _ (hHeld.1))).trans (hHeld.1), (hb.cell (World.block_lt_of_cell? _ _ (hHeld.2.1))).trans (hHeld.2.1), (hb.cell (World.block_lt_of_cell? _ _ (hHeld.2.2.1))).trans (hHeld.2.2.1), (hb.cell (World.block_lt_of_cell? _ _ (hHeld.2.2.2))).trans (hHeld.2.2.2)⟩ (fun hHeld => ?_)
  clear hK K
  refine norm_ (a' := ?_) ?_ ?_
  rotate_left
  · show Act.put _ (some 53) _ = _
    simp only [Act.put, List.setIfInBounds_toArray, List.set_cons_zero, List.set_cons_succ, i64_w, i32_w]
    rfl
  refine pure_ (i := 10) (N := some 54) (v := ?_) (a' := ?_) #[true, true, true, true, true, true, true, true, true, true, true, false] rfl rfl (by kernel_rfl) (fun _ _ _ h => h) (Or.inl ⟨by rfl, ?_⟩) ?_ ?_
  rotate_left
  · intro w'
    go_simp
    with_reducible rfl
  rotate_left
  · simp only [Act.put, List.setIfInBounds_toArray, List.set_cons_zero, List.set_cons_succ, i64_w, i32_w]
    rfl
  refine last_ (i := 11) (N := none) #[true, true, true, true, true, true, true, true, true, true, true, true] rfl rfl (by kernel_rfl) (by decide) (fun K hK => ?_)
  have H4 := h9.out.below HB3.out
  obtain ⟨W5, F5, hrun, hM5, hF1, hF2, hg5⟩ := H4.nx.map.store (t := 46) keyed2 Tryd.underlying46 hbd.out.2.2.2.1 (key2 hwu.out) (key_is c.nu) (nodeVal (⟨nd.tag, nd.fs, -1⟩, .slice A2 nd.fs.length c2))
  simp only [nodeVal] at hrun
  refine skip_ (w1 := W5) (by rfl) rfl ?_ ?_
  · go_simp
  refine hK.out _ _ ?_
  clear hK K
  refine done_ (by kernel_rfl) ?_
  have hsz := Aside0.mk (show W.heap.size ≤ W9.heap.size from HB2.out.size)
  have H5 := Aside0.mk (H4.add (nd := ⟨nd.tag, nd.fs, -1⟩) hM5 hF1 hF2 hg5 (B := W9.heap.size) (by have := hlt.out; have := hsz.out; omega) (fun j hj => Nat.lt_of_lt_of_le (h9.out.fc_lt hj) hsz.out) HR.out hwu.out (show WF (-1) from ⟨by decide, by decide⟩))
  have HM5 := Aside0.mk (show Mod W W5.drew (FCm s c v) from ((Mod.of_below HB3.out _).trans (Mod.of_grown hg5) (fun i _ hi => .inl hi)).drew)
  have hw1 := Aside0.mk (show W.heap.size + 2 ≤ w1.heap.size from by
    have h1 := (Array.getElem?_eq_some_iff.1 hby1.out).1
    omega)
  have hbn5 := Aside0.mk (show W5.drew.heap[w1.heap.size]? = _ from (hg5.block w1.heap.size (Array.getElem?_eq_some_iff.1 (blk_below hbn9.out hb)).1 (fun e => by have := hw1.out; have := hlt.out; have := Option.some.inj e; omega)).trans (blk_below hbn9.out hb))
  have hby5 := Aside0.mk (show W5.drew.heap[W.heap.size + 1]? = _ from (hg5.block (W.heap.size + 1) (Array.getElem?_eq_some_iff.1 (blk_below hby2.out hb)).1 (fun e => by have := hlt.out; have := Option.some.inj e; omega)).trans (blk_below hby2.out hb))
  have H5d := Aside0.mk (H5.out.below (below_drew1 (Below.refl _ W5)))
  have hgu : Aside0 (W9.heap.size ≤ W5.drew.heap.size) := ⟨Nat.le_trans HZ.out hg5.size⟩
  clear H5 H4 hM5 hF1 hF2 hg5 hrun hr hb
  have G0 : Aside0 (W5.drew.cell? ⟨s + 3, 0, none⟩ = some (.pointer (some ⟨s + 2, 0, none⟩))) := ⟨(blk_cell H5d.out.b5 0).trans rfl⟩
  have G1 : Aside0 (W5.drew.cell? ⟨s + 2, 1, none⟩ = some (.int .i64 c.nu)) := ⟨H5d.out.nx.cells.2.1⟩
  have G2 : Aside0 (W5.drew.cell? ⟨w1.heap.size, 1, none⟩ = some (.slice A nd.fs.length cp)) := ⟨(blk_cell hbn5.out 1).trans rfl⟩
  go_wp2
  refine start_ (n := 12) (S := fun w' => w'.cell? ⟨s + 3, 0, none⟩ = some (.pointer (some ⟨s + 2, 0, none⟩)) ∧ w'.cell? ⟨s + 2, 1, none⟩ = some (.int .i64 c.nu) ∧ w'.cell? ⟨w1.heap.size, 1, none⟩ = some (.slice A nd.fs.length cp)) (ds := [11]) #[false, false, false, false, false, false, false, false, false, false, false, false] (by kernel_rfl) rfl rfl ⟨G0.out, G1.out, G2.out⟩ (fun hHeld => ?_)
  generalize W5.drew = W8 at *
  refine pure_ (i := 4) (N := some 59) (v := ?_) (a' := ?_) #[false, false, false, false, true, false, false, false, false, false, false, false] rfl rfl (by kernel_rfl) (fun _ _ _ h => h) (Or.inl ⟨by rfl, ?_⟩) ?_ ?_
  rotate_left
  · intro w'
    go_simp
    with_reducible rfl
  rotate_left
  · simp only [Act.put, List.setIfInBounds_toArray, List.set_cons_zero, List.set_cons_succ, i64_w, i32_w]
    rfl
  refine take_ (i := 0) (N := some 55) (v := ?_) (a' := ?_) #[true, false, false, false, true, false, false, false, false, false, false, false] rfl rfl (by kernel_rfl) (fun _ _ _ h => h) (Or.inl ⟨by rfl, ?_⟩) hHeld ?_ ?_
  rotate_left
  · rintro w' ⟨s0, s1, s2⟩
    go_simp
    with_reducible rfl
  rotate_left
  · simp only [Act.put, List.setIfInBounds_toArray, List.set_cons_zero, List.set_cons_succ, i64_w, i32_w]
    rfl
  refine pure_ (i := 1) (N := some 56) (v := ?_) (a' := ?_) #[true, true, false, false, true, false, false, false, false, false, false, false] rfl rfl (by kernel_rfl) (fun _ _ _ h => h) (Or.inl ⟨by rfl, ?_⟩) ?_ ?_
  rotate_left
  · intro w'
    go_simp
    with_reducible rfl
  rotate_left
  · simp only [Act.put, List.setIfInBounds_toArray, List.set_cons_zero, List.set_cons_succ, i64_w, i32_w]
    rfl
  refine pure_ (i := 2) (N := some 57) (v := ?_) (a' := ?_) #[true, true, true, false, true, false, false, false, false, false, false, false] rfl rfl (by kernel_rfl) (fun _ _ _ h => h) (Or.inl ⟨by rfl, ?_⟩) ?_ ?_
  rotate_left
  · intro w'
    go_simp
    with_reducible rfl
  rotate_left
  · simp only [Act.put, List.setIfInBounds_toArray, List.set_cons_zero, List.set_cons_succ, i64_w, i32_w]
    rfl
  refine take_ (i := 3) (N := some 58) (v := ?_) (a' := ?_) #[true, true, true, true, true, false, false, false, false, false, false, false] rfl rfl (by kernel_rfl) (fun _ _ _ h => h) (Or.inl ⟨by rfl, ?_⟩) hHeld ?_ ?_
  rotate_left
  · rintro w' ⟨s0, s1, s2⟩
    go_simp
    with_reducible rfl
  rotate_left
  · simp only [Act.put, List.setIfInBounds_toArray, List.set_cons_zero, List.set_cons_succ, i64_w, i32_w]
    rfl
  refine take_ (i := 5) (N := some 60) (v := ?_) (a' := ?_) #[true, true, true, true, true, true, false, false, false, false, false, false] rfl rfl (by kernel_rfl) (fun _ _ _ h => h) (Or.inl ⟨by rfl, ?_⟩) hHeld ?_ ?_
  rotate_left
  · rintro w' ⟨s0, s1, s2⟩
    go_simp
    with_reducible rfl
  rotate_left
  · simp only [Act.put, List.setIfInBounds_toArray, List.set_cons_zero, List.set_cons_succ, i64_w, i32_w]
    rfl
  refine pure_ (i := 6) (N := some 61) (v := ?_) (a' := ?_) #[true, true, true, true, true, true, true, false, false, false, false, false] rfl rfl (by kernel_rfl) (fun _ _ _ h => h) (Or.inl ⟨by rfl, ?_⟩) ?_ ?_
  rotate_left
  · intro w'
    go_simp
    with_reducible rfl
  rotate_left
  · simp only [Act.put, List.setIfInBounds_toArray, List.set_cons_zero, List.set_cons_succ, i64_w, i32_w]
    rfl
  refine one_ (i := 7) (N := some 62) #[true, true, true, true, true, true, true, true, false, false, false, false] rfl rfl (by kernel_rfl) (by decide) (fun K hK => ?_)
  refine goes_ Tryd.func20 (by kernel_rfl) rfl #[.int .i64 (nd.fs.length : Int)] (by rfl) rfl rfl (by simp only [List.map_toArray, List.map_cons, List.map_nil]; rfl) ?_
  (with_reducible refine (size_calls (nd.fs.length : Int) (by omega) hlm.out W8).mono ?_)
  rintro e w6 ⟨rfl, hb⟩
  refine ⟨_, rfl, ?_⟩
  have HB6 := Aside0.mk hb
  refine hK.out _ _ ⟨(hb.cell (World.block_lt_of_cell? _ _ (hHeld.1))).trans (hHeld.1), (hb.cell (World.block_lt_of_cell? _ _ (hHeld.2.1))).trans (hHeld.2.1), (hb.cell (World.block_lt_of_cell? _ _ (hHeld.2.2))).trans (hHeld.2.2)⟩ (fun hHeld => ?_)
  clear hK K
  refine norm_ (a' := ?_) ?_ ?_
  rotate_left
  · show Act.put _ (some 62) _ = _
    simp only [Act.put, List.setIfInBounds_toArray, List.set_cons_zero, List.set_cons_succ, i64_w, i32_w]
    rfl
  refine pure_ (i := 8) (N := some 63) (v := ?_) (a' := ?_) #[true, true, true, true, true, true, true, true, true, false, false, false] rfl rfl (by kernel_rfl) (fun _ _ _ h => h) (Or.inl ⟨by rfl, ?_⟩) ?_ ?_
  rotate_left
  · intro w'
    go_simp
    with_reducible rfl
  rotate_left
  · simp only [Act.put, List.setIfInBounds_toArray, List.set_cons_zero, List.set_cons_succ, i64_w, i32_w]
    rfl
  refine pure_ (i := 9) (N := some 64) (v := ?_) (a' := ?_) #[true, true, true, true, true, true, true, true, true, true, false, false] rfl rfl (by kernel_rfl) (fun _ _ _ h => h) (Or.inl ⟨by rfl, ?_⟩) ?_ ?_
  rotate_left
  · intro w'
    go_simp
    with_reducible rfl
  rotate_left
  · simp only [Act.put, List.setIfInBounds_toArray, List.set_cons_zero, List.set_cons_succ, i64_w, i32_w]
    rfl
  refine pure_ (i := 10) (N := some 65) (v := ?_) (a' := ?_) #[true, true, true, true, true, true, true, true, true, true, true, false] rfl rfl (by kernel_rfl) (fun _ _ _ h => h) (Or.inl ⟨by rfl, ?_⟩) ?_ ?_
  rotate_left
  · intro w'
    go_simp
    with_reducible rfl
  rotate_left
  · simp only [Act.put, List.setIfInBounds_toArray, List.set_cons_zero, List.set_cons_succ, i64_w, i32_w]
    rfl
  refine last_ (i := 11) (N := none) #[true, true, true, true, true, true, true, true, true, true, true, true] rfl rfl (by kernel_rfl) (by decide) (fun K hK => ?_)
  have H6 := H5d.out.below HB6.out
  have hf6 := H6.nx.cells.2.2.2 1
  refine skip_ (w1 := ?_) (by rfl) rfl ?_ ?_
  rotate_left
  · go_simp
    rfl
  refine hK.out _ _ ?_
  clear hK K
  refine done_ (by kernel_rfl) ?_
  rw [hwr.out]
  have H7 := H6.setU (c.nu + mx ((nd.fs.length : Int) + 2) 3)
  obtain ⟨W10, F10, hrun, hM10, hG1, hG2, hg10⟩ := H7.mv.store (t := 55) keyed2 Tryd.underlying55 hbd.out.2.2.2.2.1 (key2 hwq.out) (key_is q) (.int .i64 c.nu)
  have H10 := Aside0.mk (show CW W10 base b mb half used n f s ⟨c.nu + mx ((nd.fs.length : Int) + 2) 3, c.nn + 1, updM c.g c.nu (⟨nd.tag, nd.fs, -1⟩, .slice A2 nd.fs.length c2), c.vn + 1, updV c.mv q c.nu, c.ord⟩ v from H7.setV hM10 hG1 hG2 hg10)
  have hd6 := (blk_cell H7.b6 0).trans rfl
  have hd7 := (blk_cell H10.out.b7 0).trans rfl
  have hu7 := Aside0.mk H10.out.lt
  have hby7 := Aside0.mk (show W10.heap[W.heap.size + 1]? = _ from (hg10.block (W.heap.size + 1) (by have := (Array.getElem?_eq_some_iff.1 ((Below.heap_setCell w6 ⟨s + 2, 1, none⟩ (.int .i64 (c.nu + mx ((nd.fs.length : Int) + 2) 3)) _ (by have := hlt.out; show W.heap.size + 1 ≠ s + 2; omega)).trans (blk_below hby5.out hb))).1; exact this) (fun e => by have := hlt.out; have := Option.some.inj e; omega)).trans ((Below.heap_setCell w6 ⟨s + 2, 1, none⟩ (.int .i64 (c.nu + mx ((nd.fs.length : Int) + 2) 3)) _ (by have := hlt.out; show W.heap.size + 1 ≠ s + 2; omega)).trans (blk_below hby5.out hb)))
  have HM10 := Aside0.mk (show Mod W W10 (FCm s c v) from ((HM5.out.trans (Mod.of_below HB6.out (fun _ => False)) (fun _ _ h => h.elim)).trans (Mod.of_set _ ⟨s + 2, 1, none⟩ _) (fun i _ hi => .inr (.inl hi))).trans (Mod.of_grown hg10) (fun i _ hi => .inr (.inr (.inl hi))))
  clear H6 H7 hM10 hG1 hG2 hg10 hf6 hb hHeld
  generalize hc10 : (⟨c.nu + mx ((nd.fs.length : Int) + 2) 3, c.nn + 1, updM c.g c.nu (⟨nd.tag, nd.fs, -1⟩, .slice A2 nd.fs.length c2), c.vn + 1, updV c.mv q c.nu, c.ord⟩ : CS) = c10 at H10
  have hc10 := Aside0.mk hc10
  have hco : Aside0 (c10.ord = c.ord) := ⟨by rw [← hc10.out]⟩
  have hlen := Aside0.mk (show (c10.ord.length + 1) * 8 ≤ 140737488355328 by rw [hco.out]; exact hbd.out.2.2.2.2.2)
  go_wp2_with (((with_reducible refine gate_builtin (b := .append) (xs := #[.tmp 69, .tmp 71]) rfl ?_); at_builtin; refine Kd.R_append kI (w0 := W10) s rfl (.tmp 69) (.tmp 71) 56 2 (.int .i64 0) 8 rfl Tryd.underlying56 info2 rfl (by decide) (by decide) v c10.ord c.nu [.int .i64 c.nu] (fun j => s + 7 ≤ j ∧ ∀ p x, c10.g p = some x → x.2.ownBlock ≠ some j) (fun _ => False) rfl rfl ?aP (fun _ hk => hk.elim) ?aF ?aO ?aB ?aS ?aL ?_; (case aP => exact rfl); (case aF => intro k hk; exact ⟨by have := hu7.out; omega, fun p x hp e => by have := H10.out.fc_lt (.inr ⟨p, x, hp, e⟩); omega⟩); (case aO => exact H10.out.ov); (case aB => exact Below.refl _ _); (case aS => have := hu7.out; omega); (case aL => exact hlen.out); intro v1 w7 ho hb7 hg7 hat7; obtain ⟨A7, c7, hv7⟩ := Kd.R_slice ho; rw [List.length_append, List.length_singleton] at hv7; subst hv7; have hbk7 := (hg7.block (s + 6) hu7.out (fun e => by have := (H10.out.ov.1 (s + 6) e.symm).1; omega)).trans H10.out.b7; have hk0 := (blk_cell hbk7 0).trans rfl; have hkf := blk_frozen hbk7 0; have HO := Aside0.mk (H10.out.setO ho hg7); have HOM := Aside0.mk (Mod.of_own hg7); have hat := Aside0.mk hat7; have hbyq := Aside0.mk (hg7.block (W.heap.size + 1) (Array.getElem?_eq_some_iff.1 hby7.out).1 (fun e => by have := h9.out.fc_lt (.inl e.symm); omega) |>.trans hby7.out); have hbyz := (Below.heap_setCell w7 ⟨s + 6, 0, none⟩ (.slice A7 (c10.ord.length + 1) c7) (W.heap.size + 1) (by have := hlt.out; show W.heap.size + 1 ≠ s + 6; omega)).trans hbyq.out; have hr0 := (blk_cell hbyz 0).trans rfl; have hr1 := (blk_cell hbyz 1).trans rfl; have hf0 := blk_frozen hbyz 0; have hf1 := blk_frozen hbyz 1; have hbyz := Aside0.mk hbyz; clear ho hb7 hg7 hat7 hbk7))
  have hbz := blk_put (blk_put hbyz.out 0 (.bool true) rfl) 1 (.int .i64 c.nu) rfl
  have z0 := (blk_cell hbz 0).trans rfl
  have z1 := (blk_cell hbz 1).trans rfl
  have HF : ∀ j, FC (c.more q nd (.slice A2 nd.fs.length c2)) (.slice A7 (c10.ord.length + 1) c7) j → FC c v j ∨ W.heap.size + 2 ≤ j := by
    rintro j (hj | ⟨p, x, hp, hx⟩)
    · rcases hat.out with e | ⟨b', e, hb'⟩
      · exact .inl (.inl (e ▸ hj))
      · rw [e] at hj
        obtain rfl := Option.some.inj hj
        have := (Array.getElem?_eq_some_iff.1 hby7.out).1
        right
        omega
    · replace hp : updM c.g c.nu (⟨nd.tag, nd.fs, -1⟩, .slice A2 nd.fs.length c2) p = some x := hp
      by_cases hpp : p = c.nu
      · subst hpp
        rw [updM_same] at hp
        obtain rfl := Option.some.inj hp
        have := Kd.R_base HR.out j hx
        have := hbz2.out
        right
        omega
      · rw [updM_ne _ _ hpp] at hp
        exact .inl (.inr ⟨p, x, hp, hx⟩)
  refine bodyPost_ret (v := .agg #[.bool true, .int .i64 c.nu]) (by simp [results, Tryd.results25, go_sem, z0, z1]) rfl ⟨rfl, .slice A2 nd.fs.length c2, .slice A7 (c10.ord.length + 1) c7, ?_, ?_, ?_⟩
  · have HO2 : CW (w7.setCell ⟨s + 6, 0, none⟩ (.slice A7 (c10.ord.length + 1) c7)) base b mb half used n f s (c.more q nd (.slice A2 nd.fs.length c2)) (.slice A7 (c10.ord.length + 1) c7) := by
      have h := HO.out
      rw [← hc10.out] at h ⊢
      exact h
    refine HO2.step (fun j _ hj => ?_)
    have hne : j ≠ W.heap.size + 1 := by
      have := hlt.out
      rcases hj with hj | hj
      · omega
      · rcases HF j hj with h | h
        · have := h9.out.fc_lt h
          omega
        · omega
    exact (Below.heap_setCell _ _ _ j hne).trans (Below.heap_setCell _ _ _ j hne)
  · exact (((HM10.out.trans HOM.out (fun i _ hi => .inr (.inr (.inr (.inr hi))))).trans (Mod.of_set _ ⟨s + 6, 0, none⟩ _) (fun i _ hi => .inr (.inr (.inr (.inl hi))))).trans (Mod.of_set _ ⟨W.heap.size + 1, 0, none⟩ _) (fun i hl hi => by
      replace hi : i = W.heap.size + 1 := hi
      omega)).trans (Mod.of_set _ ⟨W.heap.size + 1, 1, none⟩ _) (fun i hl hi => by
      replace hi : i = W.heap.size + 1 := hi
      omega)
  · intro j hj hf
    rcases HF j hf with h | h
    · exact h
    · omega
end
end Go.Proofs.YtepaddjjdhpmpaaDoor.HeapA
