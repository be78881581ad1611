/- (*Heap).Collect. No condition beyond those that each states. -/
import Derived.Test.YtepaddjjdhpmpaaDoorHeapG
namespace Go.Proofs.YtepaddjjdhpmpaaDoor.HeapA
open Go.RowKit Go.Proofs.YtepaddjjdhpmpaaDoorW.PrintWords Go.Proofs.YtepaddjjdhpmpaaDoorW.PrintLast Go.Proofs.YtepaddjjdhpmpaaDoorW.PrintMore Go.Proofs.YtepaddjjdhpmpaaDoor.HeapK Go.Proofs.YtepaddjjdhpmpaaDoor.PHeapP
set_option linter.unusedVariables false
set_option linter.unusedSimpArgs false
section
variable {W W1 : World} {base b mb n s : Nat} {half used : Int} {f : NM} {c : CS} {v : Value}
abbrev W7 (W : World) (b : Nat) (half : Int) : World := ((((((W.alloc (.cells #[.pointer (some ⟨b, 0, none⟩)] 24)).alloc (.map #[] 0)).alloc (.cells #[.int .i64 half, .int .i64 0, .map (some (W.heap.size + 1))] 48)).alloc (.cells #[.pointer (some ⟨W.heap.size + 2, 0, none⟩)] 24)).alloc (.map #[] 0)).alloc (.cells #[.map (some (W.heap.size + 4))] 55)).alloc (.cells #[.slice none 0 0] 56)
abbrev c00 : CS := ⟨0, 0, fun _ => none, 0, fun _ => none, []⟩
theorem alG (w : World) (o : Obj) (i : Nat) : (w.alloc o).heap[i]? = if i = w.heap.size then some o else w.heap[i]? := Array.getElem?_push
theorem alS (w : World) (o : Obj) : (w.alloc o).heap.size = w.heap.size + 1 := Array.size_push _
local macro "al_at" : tactic => `(tactic| (simp only [W7, alG, alS]; repeat (first | rw [if_pos trivial] | rw [if_neg (by omega)] | rw [if_pos (by omega)])))
theorem lits_none : lits (fun _ => none) = fun _ => none := by
  funext l
  cases l with
  | int k p => cases k <;> rfl
  | _ => rfl
theorem litsV_none : litsV (fun _ => none) = fun _ => none := by
  funext l
  cases l with
  | int k p => cases k <;> rfl
  | _ => rfl
theorem RC.start : RC none PC0 c00 := ⟨rfl, rfl, rfl, fun _ _ => rfl, fun _ => rfl, rfl, rfl, fun _ _ h => by cases h⟩
theorem CW.start (h : HW W base b mb half used n f) : CW (W7 W b half) base b mb half used n f W.heap.size c00 (.slice none 0 0) ∧ Below W.heap.size W (W7 W b half) := by
  have hb : Below W.heap.size W (W7 W b half) := below_alloc (below_alloc (below_alloc (below_alloc (below_alloc (below_alloc (below_alloc (Below.refl _ _) _) _) _) _) _) _) _
  refine ⟨⟨h.below hb, fun j hj => h.fp_lt hj, ⟨?_, ?_, (fun p x hp => by cases hp), ⟨by omega, by omega⟩, (fun p x hp => by cases hp)⟩, (fun p x hp => by cases hp), ?_, ?_, ?_, ?_, ?_, Kd.R_nil _ _ _ _ _⟩, hb⟩
  · al_at
  · rw [lits_none]
    have hm := MapF.made (W.alloc (.cells #[.pointer (some ⟨b, 0, none⟩)] 24)) Tryd.prog 2
    rw [show (W.alloc (.cells #[.pointer (some ⟨b, 0, none⟩)] 24)).heap.size = W.heap.size + 1 from Array.size_push _] at hm
    exact hm.of_block (by al_at)
  · rw [litsV_none]
    have hm := MapF.made ((((W.alloc (.cells #[.pointer (some ⟨b, 0, none⟩)] 24)).alloc (.map #[] 0)).alloc (.cells #[.int .i64 half, .int .i64 0, .map (some (W.heap.size + 1))] 48)).alloc (.cells #[.pointer (some ⟨W.heap.size + 2, 0, none⟩)] 24)) Tryd.prog 2
    rw [show ((((W.alloc (.cells #[.pointer (some ⟨b, 0, none⟩)] 24)).alloc (.map #[] 0)).alloc (.cells #[.int .i64 half, .int .i64 0, .map (some (W.heap.size + 1))] 48)).alloc (.cells #[.pointer (some ⟨W.heap.size + 2, 0, none⟩)] 24)).heap.size = W.heap.size + 4 from by simp only [alS]] at hm
    exact hm.of_block (by al_at)
  · al_at
  · al_at
  · al_at
  · al_at
def okO (s : Nat) (c : CS) (v : Value) (j : Nat) : Prop := s + 7 ≤ j ∧ ¬ FC c v j
theorem pMoveL_cons {l : List (Int × Nd)} {pc pc2 : PC} {w : S33} {r xs : List S33} (h : pMoveL l pc (w :: r) = some (pc2, xs)) : ∃ pc1 x ys, pMove l pc w = some (pc1, x) ∧ pMoveL l pc1 r = some (pc2, ys) ∧ xs = x :: ys := by
  simp only [pMoveL] at h
  cases h1 : pMove l pc w with
  | none => rw [h1] at h; cases h
  | some a =>
    obtain ⟨pc1, x⟩ := a
    rw [h1] at h
    simp only at h
    cases h2 : pMoveL l pc1 r with
    | none => rw [h2] at h; cases h
    | some a2 =>
      obtain ⟨pc3, ys⟩ := a2
      rw [h2] at h
      simp only [Option.some.injEq, Prod.mk.injEq] at h
      obtain ⟨rfl, rfl⟩ := h
      exact ⟨pc1, x, ys, rfl, h2, rfl⟩
/-- What is handed out stays beside a collection's step. -/
theorem St.out {o : Option Int} {pc' : PC} {c' : CS} {v' u : Value} {rs : List S33} (h : St o base b mb half used n f s W c v pc' W1 c' v') (hR : Kd.R k33 33 W s (okO s c v) u rs) : Kd.R k33 33 W1 s (okO s c' v') u rs := by
  refine R33_step hR (fun j hj => ?_) (fun j hj => ?_)
  · obtain ⟨h7, hf⟩ := hR.1 j hj
    refine h.md.block j (Kd.R_lt hR j hj) ?_
    rintro (rfl | rfl | rfl | rfl | e)
    · omega
    · omega
    · omega
    · omega
    · exact hf (.inl e)
  · obtain ⟨h7, hf⟩ := hR.1 j hj
    exact ⟨h7, fun e => hf (h.fc j (Kd.R_lt hR j hj) e)⟩
theorem CW.fresh (h : CW W base b mb half used n f s c v) {k : Nat} (hk : W.heap.size ≤ k) : okO s c v k := by
  have := h.lt
  exact ⟨by omega, fun e => by have := h.fc_lt e; omega⟩
theorem CW.fcm_ge (h : CW W base b mb half used n f s c v) {j : Nat} (hj : FCm s c v j) : s ≤ j := by
  rcases hj with rfl | rfl | rfl | rfl | e
  · omega
  · omega
  · omega
  · omega
  · have := h.fc_ge (.inl e)
    omega
theorem CW.grown (h : CW W base b mb half used n f s c v) {u : Value} {rs : List S33} (hR : Kd.R k33 33 W s (okO s c v) u rs) (hg : W.grownBy W1 u.ownBlock) : CW W1 base b mb half used n f s c v :=
  h.step (fun j hj hc => hg.block j hj (fun e => by
    obtain ⟨h7, hf⟩ := hR.1 j e.symm
    rcases hc with hc | hc
    · omega
    · exact hf hc))
theorem CW.setF (h : CW W base b mb half used n f s c v) {q : Int} {nd : Nd} {g cp i : Nat} (hq : c.g q = some (nd, .slice (some ⟨g, 0, none⟩) nd.fs.length cp)) (hi : i < nd.fs.length) (x : S33) :
    CW ((W.setCell ⟨g, i * 2, none⟩ (.bool x.f0)).setCell ⟨g, i * 2 + 1, none⟩ (.int .i64 x.f1)) base b mb half used n f s { c with g := updM c.g q ({ nd with fs := nd.fs.set i x }, .slice (some ⟨g, 0, none⟩) nd.fs.length cp) } v := by
  have hg : FC c v g := .inr ⟨q, _, hq, rfl⟩
  have hg7 := h.fc_ge hg
  have hlt := h.lt
  have hsm : ∀ j, j ≠ g → ((W.setCell ⟨g, i * 2, none⟩ (.bool x.f0)).setCell ⟨g, i * 2 + 1, none⟩ (.int .i64 x.f1)).heap[j]? = W.heap[j]? := fun j hj => (Below.heap_setCell _ _ _ j hj).trans (Below.heap_setCell _ _ _ j hj)
  have hov : ∀ (p : Int) (x' : Nd × Value), updM c.g q ({ nd with fs := nd.fs.set i x }, .slice (some ⟨g, 0, none⟩) nd.fs.length cp) p = some x' → ∃ x2, c.g p = some x2 ∧ x2.2 = x'.2 := by
    intro p x' hx'
    by_cases hp : p = q
    · subst hp
      rw [updM_same] at hx'
      obtain rfl := Option.some.inj hx'
      exact ⟨_, hq, rfl⟩
    · rw [updM_ne _ _ hp] at hx'
      exact ⟨x', hx', rfl⟩
  refine ⟨h.h.step (fun j hj => hsm j (by have := h.old j hj; omega)), h.old, h.nx.setField hq hi x, fun p x' hx' j hj => ?_, h.mv.of_block (hsm _ (by omega)), (hsm _ (by omega)).trans h.b2, (hsm _ (by omega)).trans h.b5, (hsm _ (by omega)).trans h.b6, (hsm _ (by omega)).trans h.b7, ?_⟩
  · obtain ⟨x2, h2, e⟩ := hov p x' hx'
    exact h.new p x2 h2 j (by rw [e]; exact hj)
  · have h3 : Kd.R kI 2 W s (fun j => (s + 7 ≤ j ∧ ∀ p x, c.g p = some x → x.2.ownBlock ≠ some j) ∧ v.ownBlock = some j) v c.ord := by
      obtain ⟨h0, inner, ho, hr⟩ := h.ov
      exact ⟨fun j hj => ⟨h0 j hj, hj⟩, inner, ho, hr⟩
    refine Kd.R_mono (Kd.R_step h3 (fun j hj _ => hsm j (fun e => hj.1.2 q _ hq (by rw [e]; rfl)))) (fun j hj => ⟨hj.1.1, fun p x' hx' => ?_⟩)
    obtain ⟨x2, h2, e⟩ := hov p x' hx'
    rw [← e]
    exact hj.1.2 p x2 h2
theorem fc_setF {q : Int} {nd nd' : Nd} {z : Value} (hq : c.g q = some (nd, z)) {j : Nat} (hj : FC { c with g := updM c.g q (nd', z) } v j) : FC c v j := by
  rcases hj with hj | ⟨p, x, hp, hx⟩
  · exact .inl hj
  · replace hp : updM c.g q (nd', z) p = some x := hp
    by_cases hpp : p = q
    · subst hpp
      rw [updM_same] at hp
      obtain rfl := Option.some.inj hp
      exact .inr ⟨p, _, hq, hx⟩
    · rw [updM_ne _ _ hpp] at hp
      exact .inr ⟨p, x, hp, hx⟩
theorem field54s (tag link : Int) (v : Value) (w : World) : (Instr.field 54 (.agg #[.int .i64 tag, v, .int .i64 link]) 1).run Tryd.prog w = .ok v w := by kernel_rfl
theorem cell_set {a p : Addr} {u x : Value} (h : W.cell? p = some u) (hne : p.block ≠ a.block) : (W.setCell a x).cell? p = some u := (World.cell?_of_block (w := W) (Below.heap_setCell W a x p.block hne)).trans h
theorem CW.swap (h : CW W base b mb half used n f s c v) (hb : base ≤ s) {pc : PC} (hr : RC none pc c) : HW ((W.setCell ⟨b, 1, none⟩ (.int .i64 c.nu)).setCell ⟨b, 2, none⟩ (.map (some (s + 1)))) base b (s + 1) half pc.nu pc.t c.g := by
  have hbs := h.old b (.inl rfl)
  have hsm : ∀ j, j ≠ b → ((W.setCell ⟨b, 1, none⟩ (.int .i64 c.nu)).setCell ⟨b, 2, none⟩ (.map (some (s + 1)))).heap[j]? = W.heap[j]? := fun j hj => (Below.heap_setCell _ _ _ j hj).trans (Below.heap_setCell _ _ _ j hj)
  refine ⟨?_, ?_, fun p x hp => ?_, ⟨h.h.ge.1, by omega⟩, h.nx.wl⟩
  · rw [← hr.nu]
    exact blk_put (blk_put h.h.blk 1 _ rfl) 2 _ rfl
  · rw [← hr.nn]
    exact h.nx.map.of_block (hsm _ (by omega))
  · have h1 := h.nx.rows p x hp
    have h7 := h.new p x hp
    exact Kd.R_lower (R33_step h1 (fun j hj => hsm j (by have := h7 j hj; omega)) (fun j hj => ⟨by have := h7 j hj; omega, (h1.1 j hj).2.1, (h1.1 j hj).2.2⟩)) hb
theorem swap_out (hbs : b < s) {u : Value} {rs : List S33} {y : Int} {z : Value} (hR : Kd.R k33 33 W s (okO s c v) u rs) : Kd.R k33 33 ((W.setCell ⟨b, 1, none⟩ (.int .i64 y)).setCell ⟨b, 2, none⟩ z) s (fun j => ¬ FP b (s + 1) c.g j) u rs :=
  R33_step hR (fun j hj => by
    have := (hR.1 j hj).1
    have hn : j ≠ b := by omega
    exact (Below.heap_setCell _ _ _ j hn).trans (Below.heap_setCell _ _ _ j hn)) (fun j hj => by
    have h7 := (hR.1 j hj).1
    rintro (e | e | ⟨p, x, hp, hx⟩)
    · omega
    · omega
    · exact (hR.1 j hj).2 (.inr ⟨p, x, hp, hx⟩))
theorem set_mid {α : Type} {d t : List α} {k : Nat} (hd : d.length = k) (hk : k < t.length) (x : α) : (d ++ t.drop k).set k x = (d ++ [x]) ++ t.drop (k + 1) := by
  rw [List.set_append_right _ _ (by omega), hd, Nat.sub_self, List.drop_eq_getElem_cons hk, List.set_cons_zero, List.append_assoc]
  rfl
theorem at_ord (h : CW W base b mb half used n f s c v) {i : Nat} (hi : i < c.ord.length) : ∃ a cp, v = .slice (some a) c.ord.length cp ∧ W.cell? (a.add i) = some (.int .i64 c.ord[i]) := by
  obtain ⟨A, cp, hv⟩ := Kd.R_slice h.ov
  subst hv
  obtain ⟨ad, cc, hA, hl, hK, hc⟩ := Kd.C_get (Kd.R_reads' h.ov).2.2 (0 : Int) (i : Int) (by omega) (by omega)
  refine ⟨ad, cp, by rw [hA], ?_⟩
  have hx : c.ord.getD (i : Int).toNat 0 = c.ord[i] := by simp [hi]
  rw [hx] at hK
  obtain rfl : cc = [.int .i64 c.ord[i]] := hK
  have := hc 0 _ rfl
  rw [show kI.sz = 1 from rfl] at this
  simpa [Addr.add] using this
theorem at_row (h : CW W base b mb half used n f s c v) {p : Int} {nd : Nd} {g m cp : Nat} (hg : c.g p = some (nd, .slice (some ⟨g, 0, none⟩) m cp)) (hm : nd.fs.length = m) {k : Nat} (hk : k < nd.fs.length) :
    W.cell? ⟨g, k * 2, none⟩ = some (.bool nd.fs[k].f0) ∧ W.cell? ⟨g, k * 2 + 1, none⟩ = some (.int .i64 nd.fs[k].f1) ∧ W.frozen? ⟨g, k * 2, none⟩ = false ∧ W.frozen? ⟨g, k * 2 + 1, none⟩ = false := by
  subst hm
  obtain ⟨d, hdl, hdM, hdc, hf⟩ := Kd.R_elem (show Kd.R k33 33 W s (okN (s + 2) (s + 1) c.g p) (.slice (some ⟨g, 0, none⟩) nd.fs.length cp) nd.fs from h.nx.rows p _ hg) z33 (k : Int) (by omega) (by omega)
  have hd := k33_openM hdM
  subst hd
  have hx : nd.fs.getD (k : Int).toNat z33 = nd.fs[k] := by simp [hk]
  rw [hx] at hdc
  exact ⟨hdc 0 _ rfl, hdc 1 _ rfl, hf 0, hf 1⟩
theorem RC.weaken {pc : PC} (h : RC none pc c) (p : Int) : RC (some p) pc c := ⟨h.nu, h.nn, h.vn, fun q _ => h.g q (by simp), h.mv, h.ord, h.len, h.lt⟩
theorem RC.fill {pc : PC} {p : Int} {nd : Nd} {z : Value} (h : RC (some p) pc c) (hp : c.g p = some (nd, z)) : RC none { pc with g := (p, nd) :: pc.g } c := by
  refine ⟨h.nu, h.nn, h.vn, fun q _ => ?_, h.mv, h.ord, h.len, h.lt⟩
  simp only [find]
  split
  · rename_i e
    rw [e, hp]
    rfl
  · rename_i e
    exact h.g q (fun e2 => e (Option.some.inj e2).symm)
theorem RC.setF {o : Int} {pc : PC} {nd nd' : Nd} {z : Value} (h : RC (some o) pc c) (hp : c.g o = some (nd, z)) : RC (some o) pc { c with g := updM c.g o (nd', z) } := by
  refine ⟨h.nu, h.nn, h.vn, fun q hq => ?_, h.mv, h.ord, h.len, fun p x hx => ?_⟩
  · have hne : q ≠ o := fun e => hq (by rw [e])
    show (updM c.g o (nd', z) q).map _ = _
    rw [updM_ne _ _ hne]
    exact h.g q hq
  · replace hx : updM c.g o (nd', z) p = some x := hx
    by_cases hpp : p = o
    · subst hpp
      exact h.lt p _ hp
    · rw [updM_ne _ _ hpp] at hx
      exact h.lt p x hx
set_option maxHeartbeats 16000000 in
set_option maxRecDepth 100000 in
theorem collect_calls (h : HW W base b mb half used n f) {l : List (Int × Nd)} (hf : Sm f l) {ws rs : List S33} {pc1 pc2 : PC} (h1 : pMoveL l PC0 ws = some (pc1, rs)) (h2 : pScan l 1000 pc1 0 = some pc2) {A : Option Addr} {cp : Nat} (hC : Kd.C k33 W A ws.length ws) (hl : ws.length ≤ 1000) :
    Calls Tryd.prog 14 #[.pointer (some ⟨b, 0, none⟩), .slice A ws.length cp] W fun e W' => ∃ u mb' g', e = .returned u ∧ HW W' base b mb' half pc2.nu pc2.t g' ∧ Sm g' pc2.g ∧ Kd.R k33 33 W' W.heap.size (fun j => ¬ FP b mb' g' j) u rs ∧ Mod W W' (fun j => j = b) ∧ ∀ j, FP b mb' g' j → j = b ∨ W.heap.size ≤ j := by
  obtain ⟨hc0, hc1, hc2, hcf⟩ := h.cells
  have h9 := Aside0.mk h
  have hC9 := Aside0.mk hC
  have hl9 := Aside0.mk hl
  have hmm := @run_makeMap Tryd.prog
  have hK := (World.cell?_alloc_lt W (.cells #[.pointer (some ⟨b, 0, none⟩)] 24) _ (World.block_lt_of_cell? _ _ hc0)).trans hc0
  clear h hC hl
  go_enter Tryd.func14, Tryd.ntmps14
  go_wp2
  obtain ⟨hs, hsb⟩ := CW.start h9.out
  have hs9 := Aside0.mk hs
  have hsb9 := Aside0.mk hsb
  clear hs hsb hc0 hc1 hc2 hcf hmm hK
  simp only [Nat.add_assoc, Nat.reduceAdd]
  simp only [W7] at hs9 hsb9
  generalize ((((((W.alloc (.cells #[.pointer (some ⟨b, 0, none⟩)] 24)).alloc (.map #[] 0)).alloc (.cells #[.int .i64 half, .int .i64 0, .map (some (W.heap.size + 1))] 48)).alloc (.cells #[.pointer (some ⟨W.heap.size + 2, 0, none⟩)] 24)).alloc (.map #[] 0)).alloc (.cells #[.map (some (W.heap.size + 4))] 55)).alloc (.cells #[.slice none 0 0] 56) = w0 at *
  have hf := Aside0.mk hf
  have h1 := Aside0.mk h1
  have h2 := Aside0.mk h2
  generalize hsz : W.heap.size = s at *
  go_loopg [9, 26] (ws.length + 1) (fun kq v9 v26 w' => ∃ (i : Nat) (c : CS) (v : Value) (pc : PC) (done todo : List S33) (A1 : Option Addr) (c1 m1 : Nat), v9 = .slice A1 m1 c1 ∧ v26 = .int .i64 (i : Int) ∧ i + kq = ws.length + 1 ∧ 1 ≤ kq ∧ Aside0 (m1 = done.length ∧ m1 = i) ∧ Aside0 (CW w' base b mb half used n f s c v) ∧ Aside0 (RC none pc c) ∧ Aside0 (pMoveL l pc (ws.drop i) = some (pc1, todo)) ∧ Aside0 (done ++ todo = rs) ∧ Aside0 (Kd.R k33 33 w' s (okO s c v) (.slice A1 m1 c1) done) ∧ Aside0 (Below s W w'))
  case atStart => exact ⟨0, c00, .slice none 0 0, PC0, [], rs, none, 0, 0, rfl, rfl, by omega, by omega, ⟨rfl, rfl⟩, hs9, ⟨RC.start⟩, h1, ⟨rfl⟩, ⟨Kd.R_nil _ _ _ _ _⟩, hsb9⟩
  case round =>
    obtain ⟨i, c, v, pc, done, todo, A1, c1, m1, rfl, rfl, hi, hk, hlen, hcw, hrc, hpm, hdt, hout, hb⟩ := hrel
    by_cases hlt : i < ws.length
    · obtain ⟨a1, rfl, hv0, hv1⟩ := at_T33 (Kd.C_below hC9.out (hsz ▸ hb.out)) (i : Int) (by omega) (by omega)
      have hx : rd_T33 ws (i : Int) = ws[i] := by simp [rd_T33, hlt]
      simp only [Int.toNat_natCast] at hv0 hv1
      rw [hx] at hv0 hv1
      have p0 : 0 ≤ (i : Int) := by omega
      have q0 : (i : Int) < (ws.length : Int) := by omega
      have q1 : decide ((i : Int) < (ws.length : Int)) = true := decide_eq_true q0
      have hp2 := hpm.out
      rw [List.drop_eq_getElem_cons hlt] at hp2
      obtain ⟨pcn, x, todo2, hpx, hpr, htd⟩ := pMoveL_cons hp2
      generalize ws[i] = y at *
      have hca := Aside0.mk (hcw.out.below (below_alloc (Below.refl _ wr) (.cells #[.bool y.f0, .int .i64 y.f1] 33)))
      have C := move_p hca.out hf.out hrc.out hpx
      have hpr := Aside0.mk hpr
      have htd := Aside0.mk htd
      clear hpx hp2
      have ho2 := Aside0.mk (R33_step (W1 := wr.alloc (.cells #[.bool y.f0, .int .i64 y.f1] 33)) hout.out (fun j hj => (below_alloc (Below.refl _ wr) _).block j (Kd.R_lt hout.out j hj)) hout.out.1)
      have hll := Aside0.mk (show (done.length + 1) * 16 ≤ 140737488355328 by have := hlen.out; have := hl9.out; omega)
      go_wp2_with (first | (go_at_call 25; (with_reducible refine C.mono ?_); rintro e w1 ⟨rfl, c', v', st⟩; have ST := Aside0.mk st; have HO := Aside0.mk (st.out ho2.out); clear st) | ((with_reducible refine gate_builtin (b := .append) (xs := #[.tmp 30, .tmp 34]) rfl ?_); at_builtin; refine Kd.R_append k33 (w0 := w1) s rfl (.tmp 30) (.tmp 34) 29 33 (.agg #[.bool false, .int .i64 0]) 16 rfl Tryd.underlying29 info33 rfl (by decide) (by decide) (.slice A1 m1 c1) done x [.bool x.f0, .int .i64 x.f1] (okO s c' v') (fun _ => False) rfl rfl ?aP (fun _ hk => hk.elim) ?aF ?aO ?aB ?aS ?aL ?_; (case aP => exact k33_mkM _ _ _ x); (case aF => exact fun k hk => ST.out.cw.fresh hk); (case aO => exact HO.out); (case aB => exact Below.refl _ _); (case aS => have := ST.out.cw.lt; omega); (case aL => exact hll.out); intro v3 w3 ho hb3 hg3 hat3; obtain ⟨A3, c3, hv3⟩ := Kd.R_slice ho; rw [List.length_append, List.length_singleton] at hv3; subst hv3; have HO3 := Aside0.mk ho; have HCW3 := Aside0.mk (ST.out.cw.grown HO.out hg3); have HB3 := Aside0.mk (((Mod.of_own hg3).below (B := s) (by have := ST.out.cw.lt; omega) (fun j _ hj => by have := (HO.out.1 j hj).1; omega))); clear ho hb3 hg3 hat3))
      have hl0 := hl9.out
      go_roundg (gk - 1)
      case measure => omega
      case rel => exact ⟨i + 1, c', v', pcn, done ++ [x], todo2, A3, c3, done.length + 1, rfl, by rw [show wrap64 ((i : Int) + 1) = ((i + 1 : Nat) : Int) by unfold wrap64; omega], by omega, by omega, ⟨by simp, by have := hlen.out; omega⟩, HCW3, ⟨ST.out.rc⟩, hpr, ⟨by rw [← hdt.out, htd.out]; simp⟩, HO3, ⟨((hb.out.trans ((below_alloc (Below.refl _ wr) _).mono (by have := hcw.out.lt; omega))).trans (ST.out.md.below (B := s) (by have := hca.out.lt; omega) (fun j _ hj => hcw.out.fcm_ge hj))).trans HB3.out⟩⟩
    · have q1 : decide ((i : Int) < (ws.length : Int)) = false := decide_eq_false (by omega)
      have hp2 := hpm.out
      rw [List.drop_eq_nil_of_le (by omega)] at hp2
      simp only [pMoveL, Option.some.injEq, Prod.mk.injEq] at hp2
      obtain ⟨rfl, rfl⟩ := hp2
      have hdr := hdt.out
      rw [List.append_nil] at hdr
      subst hdr
      go_wp2
      have hR := hout
      clear hout hdt hpm
      go_loopg [12] 1000 (fun kq v12 w' => ∃ (i2 : Nat) (c : CS) (v : Value) (pc : PC), v12 = .int .i64 (i2 : Int) ∧ i2 + kq = 1000 ∧ Aside0 (CW w' base b mb half used n f s c v) ∧ Aside0 (RC none pc c) ∧ Aside0 (pScan l kq pc i2 = some pc2) ∧ Aside0 (Kd.R k33 33 w' s (okO s c v) (.slice A1 m1 c1) done) ∧ Aside0 (Below s W w'))
      case atStart => exact ⟨0, c, v, pc, rfl, rfl, hcw, hrc, h2, hR, hb⟩
      case round =>
        clear hcw hrc hR hb h2
        obtain ⟨i2, c, v, pc, rfl, hi2, hcw, hrc, hsc, hR, hb⟩ := hrel
        obtain ⟨k', hk'⟩ : ∃ k', gk = k' + 1 := by
          cases gk with
          | zero => have := hsc.out; simp [pScan] at this
          | succ k' => exact ⟨k', rfl⟩
        obtain ⟨Av, cv, hv⟩ := Kd.R_slice hcw.out.ov
        subst hv
        have hd7 := (blk_cell hcw.out.b7 0).trans rfl
        have hs2 := hsc.out
        rw [hk'] at hs2
        simp only [pScan] at hs2
        cases ho : pc.ord[i2]? with
        | none =>
          rw [ho] at hs2
          obtain rfl := Option.some.inj hs2
          have q1 : decide ((i2 : Int) < (c.ord.length : Int)) = false := decide_eq_false (by rw [hrc.out.ord]; have := List.getElem?_eq_none_iff.1 ho; omega)
          have q2 : decide (i2 < c.ord.length) = false := decide_eq_false (by rw [hrc.out.ord]; have := List.getElem?_eq_none_iff.1 ho; omega)
          clear hs2
          have L0 : Aside0 (wr.drew.cell? ⟨s, 0, none⟩ = some (.pointer (some ⟨b, 0, none⟩))) := ⟨(blk_cell hcw.out.b2 0).trans rfl⟩
          have L1 : Aside0 (wr.drew.cell? ⟨s + 3, 0, none⟩ = some (.pointer (some ⟨s + 2, 0, none⟩))) := ⟨(blk_cell hcw.out.b5 0).trans rfl⟩
          have L2 : Aside0 (wr.drew.cell? ⟨s + 2, 1, none⟩ = some (.int .i64 c.nu)) := ⟨hcw.out.nx.cells.2.1⟩
          have L3 : Aside0 (wr.drew.cell? ⟨s + 2, 2, none⟩ = some (.map (some (s + 1)))) := ⟨hcw.out.nx.cells.2.2.1⟩
          have HBS := Aside0.mk (show b < s from hcw.out.old b (.inl rfl))
          have HH := Aside0.mk (hcw.out.h.below (below_drew1 (Below.refl _ wr)))
          have HC := Aside0.mk (hcw.out.below (below_drew1 (Below.refl _ wr)))
          have HRd := Aside0.mk (R33_step (W1 := wr.drew) hR.out (fun _ _ => rfl) hR.out.1)
          have hbd := Aside0.mk (show Below s W wr.drew from hb.out.drew)
          go_wp2
          refine start_ (n := 16) (S := fun w' => w'.cell? ⟨s, 0, none⟩ = some (.pointer (some ⟨b, 0, none⟩)) ∧ w'.cell? ⟨s + 3, 0, none⟩ = some (.pointer (some ⟨s + 2, 0, none⟩)) ∧ w'.cell? ⟨s + 2, 1, none⟩ = some (.int .i64 c.nu) ∧ w'.cell? ⟨s + 2, 2, none⟩ = some (.map (some (s + 1)))) (ds := [15]) #[false, false, false, false, false, false, false, false, false, false, false, false, false, false, false, false] (by kernel_rfl) rfl rfl ⟨L0.out, L1.out, L2.out, L3.out⟩ (fun hHeld => ?_)
          generalize wr.drew = w5 at *
          refine take_ (i := 0) (N := some 68) (v := ?_) (a' := ?_) #[true, false, false, false, false, false, false, false, false, false, false, false, false, false, false, false] rfl rfl (by kernel_rfl) (fun _ _ _ h => h) (Or.inl ⟨by rfl, ?_⟩) hHeld ?_ ?_
          rotate_left
          · rintro w' ⟨s0, s1, s2, s3⟩
            go_simp
            with_reducible rfl
          rotate_left
          · simp only [Act.put, List.setIfInBounds_toArray, List.set_cons_zero, List.set_cons_succ, i64_w, i32_w]
            rfl
          refine take_ (i := 1) (N := some 69) (v := ?_) (a' := ?_) #[true, true, false, false, false, false, false, false, false, false, false, false, false, false, false, false] rfl rfl (by kernel_rfl) (fun _ _ _ h => h) (Or.inl ⟨by rfl, ?_⟩) hHeld ?_ ?_
          rotate_left
          · rintro w' ⟨s0, s1, s2, s3⟩
            go_simp
            with_reducible rfl
          rotate_left
          · simp only [Act.put, List.setIfInBounds_toArray, List.set_cons_zero, List.set_cons_succ, i64_w, i32_w]
            rfl
          refine take_ (i := 2) (N := some 70) (v := ?_) (a' := ?_) #[true, true, true, false, false, false, false, false, false, false, false, false, false, false, false, false] rfl rfl (by kernel_rfl) (fun _ _ _ h => h) (Or.inl ⟨by rfl, ?_⟩) hHeld ?_ ?_
          rotate_left
          · rintro w' ⟨s0, s1, s2, s3⟩
            go_simp
            with_reducible rfl
          rotate_left
          · simp only [Act.put, List.setIfInBounds_toArray, List.set_cons_zero, List.set_cons_succ, i64_w, i32_w]
            rfl
          refine pure_ (i := 3) (N := some 71) (v := ?_) (a' := ?_) #[true, true, true, true, false, false, false, false, false, false, false, false, false, false, false, false] rfl rfl (by kernel_rfl) (fun _ _ _ h => h) (Or.inl ⟨by rfl, ?_⟩) ?_ ?_
          rotate_left
          · intro w'
            go_simp
            with_reducible rfl
          rotate_left
          · simp only [Act.put, List.setIfInBounds_toArray, List.set_cons_zero, List.set_cons_succ, i64_w, i32_w]
            rfl
          refine pure_ (i := 4) (N := some 72) (v := ?_) (a' := ?_) #[true, true, true, true, true, false, false, false, false, false, false, false, false, false, false, false] rfl rfl (by kernel_rfl) (fun _ _ _ h => h) (Or.inl ⟨by rfl, ?_⟩) ?_ ?_
          rotate_left
          · intro w'
            go_simp
            with_reducible rfl
          rotate_left
          · simp only [Act.put, List.setIfInBounds_toArray, List.set_cons_zero, List.set_cons_succ, i64_w, i32_w]
            rfl
          refine take_ (i := 5) (N := some 73) (v := ?_) (a' := ?_) #[true, true, true, true, true, true, false, false, false, false, false, false, false, false, false, false] rfl rfl (by kernel_rfl) (fun _ _ _ h => h) (Or.inl ⟨by rfl, ?_⟩) hHeld ?_ ?_
          rotate_left
          · rintro w' ⟨s0, s1, s2, s3⟩
            go_simp
            with_reducible rfl
          rotate_left
          · simp only [Act.put, List.setIfInBounds_toArray, List.set_cons_zero, List.set_cons_succ, i64_w, i32_w]
            rfl
          refine take_ (i := 6) (N := some 74) (v := ?_) (a' := ?_) #[true, true, true, true, true, true, true, false, false, false, false, false, false, false, false, false] rfl rfl (by kernel_rfl) (fun _ _ _ h => h) (Or.inl ⟨by rfl, ?_⟩) hHeld ?_ ?_
          rotate_left
          · rintro w' ⟨s0, s1, s2, s3⟩
            go_simp
            with_reducible rfl
          rotate_left
          · simp only [Act.put, List.setIfInBounds_toArray, List.set_cons_zero, List.set_cons_succ, i64_w, i32_w]
            rfl
          refine pure_ (i := 7) (N := some 75) (v := ?_) (a' := ?_) #[true, true, true, true, true, true, true, true, false, false, false, false, false, false, false, false] rfl rfl (by kernel_rfl) (fun _ _ _ h => h) (Or.inl ⟨by rfl, ?_⟩) ?_ ?_
          rotate_left
          · intro w'
            go_simp
            with_reducible rfl
          rotate_left
          · simp only [Act.put, List.setIfInBounds_toArray, List.set_cons_zero, List.set_cons_succ, i64_w, i32_w]
            rfl
          refine pure_ (i := 8) (N := some 76) (v := ?_) (a' := ?_) #[true, true, true, true, true, true, true, true, true, false, false, false, false, false, false, false] rfl rfl (by kernel_rfl) (fun _ _ _ h => h) (Or.inl ⟨by rfl, ?_⟩) ?_ ?_
          rotate_left
          · intro w'
            go_simp
            with_reducible rfl
          rotate_left
          · simp only [Act.put, List.setIfInBounds_toArray, List.set_cons_zero, List.set_cons_succ, i64_w, i32_w]
            rfl
          refine take_ (i := 9) (N := some 77) (v := ?_) (a' := ?_) #[true, true, true, true, true, true, true, true, true, true, false, false, false, false, false, false] rfl rfl (by kernel_rfl) (fun _ _ _ h => h) (Or.inl ⟨by rfl, ?_⟩) hHeld ?_ ?_
          rotate_left
          · rintro w' ⟨s0, s1, s2, s3⟩
            go_simp
            with_reducible rfl
          rotate_left
          · simp only [Act.put, List.setIfInBounds_toArray, List.set_cons_zero, List.set_cons_succ, i64_w, i32_w]
            rfl
          refine pure_ (i := 10) (N := some 78) (v := ?_) (a' := ?_) #[true, true, true, true, true, true, true, true, true, true, true, false, false, false, false, false] rfl rfl (by kernel_rfl) (fun _ _ _ h => h) (Or.inl ⟨by rfl, ?_⟩) ?_ ?_
          rotate_left
          · intro w'
            go_simp
            with_reducible rfl
          rotate_left
          · simp only [Act.put, List.setIfInBounds_toArray, List.set_cons_zero, List.set_cons_succ, i64_w, i32_w]
            rfl
          refine pure_ (i := 11) (N := some 79) (v := ?_) (a' := ?_) #[true, true, true, true, true, true, true, true, true, true, true, true, false, false, false, false] rfl rfl (by kernel_rfl) (fun _ _ _ h => h) (Or.inl ⟨by rfl, ?_⟩) ?_ ?_
          rotate_left
          · intro w'
            go_simp
            with_reducible rfl
          rotate_left
          · simp only [Act.put, List.setIfInBounds_toArray, List.set_cons_zero, List.set_cons_succ, i64_w, i32_w]
            rfl
          refine one_ (i := 12) (N := none) #[true, true, true, true, true, true, true, true, true, true, true, true, true, false, false, false] rfl rfl (by kernel_rfl) (by decide) (fun K hK => ?_)
          obtain ⟨b0, b1, b2, bf⟩ := HH.out.cells
          have bf1 := bf 1
          refine skip_ (w1 := ?_) (by rfl) rfl ?_ ?_
          rotate_left
          · go_simp
            rfl
          refine hK.out _ _ ⟨cell_set (hHeld.1) (by have := HBS.out; show s ≠ b; omega), cell_set (hHeld.2.1) (by have := HBS.out; show s + 3 ≠ b; omega), cell_set (hHeld.2.2.1) (by have := HBS.out; show s + 2 ≠ b; omega), cell_set (hHeld.2.2.2) (by have := HBS.out; show s + 2 ≠ b; omega)⟩ (fun hHeld => ?_)
          clear hK K
          refine pure_ (i := 13) (N := some 80) (v := ?_) (a' := ?_) #[true, true, true, true, true, true, true, true, true, true, true, true, true, true, false, false] rfl rfl (by kernel_rfl) (fun _ _ _ h => h) (Or.inl ⟨by rfl, ?_⟩) ?_ ?_
          rotate_left
          · intro w'
            go_simp
            with_reducible rfl
          rotate_left
          · simp only [Act.put, List.setIfInBounds_toArray, List.set_cons_zero, List.set_cons_succ, i64_w, i32_w]
            rfl
          refine pure_ (i := 14) (N := some 81) (v := ?_) (a' := ?_) #[true, true, true, true, true, true, true, true, true, true, true, true, true, true, true, false] rfl rfl (by kernel_rfl) (fun _ _ _ h => h) (Or.inl ⟨by rfl, ?_⟩) ?_ ?_
          rotate_left
          · intro w'
            go_simp
            with_reducible rfl
          rotate_left
          · simp only [Act.put, List.setIfInBounds_toArray, List.set_cons_zero, List.set_cons_succ, i64_w, i32_w]
            rfl
          refine last_ (i := 15) (N := none) #[true, true, true, true, true, true, true, true, true, true, true, true, true, true, true, true] rfl rfl (by kernel_rfl) (by decide) (fun K hK => ?_)
          obtain ⟨b0, b1, b2, bf⟩ := (HH.out.setUsed c.nu).cells
          have bf2 := bf 2
          refine skip_ (w1 := ?_) (by rfl) rfl ?_ ?_
          rotate_left
          · go_simp
            rfl
          refine hK.out _ _ ?_
          clear hK K
          refine done_ (by kernel_rfl) ?_
          go_wp2
          have hr9 := HC.out.swap (show base ≤ s from by have := HH.out.ge.1; have := HBS.out; omega) hrc.out
          have hR9 := swap_out (y := c.nu) (z := .map (some (s + 1))) HBS.out HRd.out
          have hM9 := ((Mod.of_below (show Below W.heap.size W w5 from hsz ▸ hbd.out) (fun j => j = b)).trans (Mod.of_set w5 ⟨b, 1, none⟩ (.int .i64 c.nu)) (fun _ _ h => h)).trans (Mod.of_set _ ⟨b, 2, none⟩ (.map (some (s + 1)))) (fun _ _ h => h)
          have hfp9 : ∀ j, FP b (s + 1) c.g j → j = b ∨ s ≤ j := fun j hj => by
            rcases hj with h | h | ⟨p, x, hp, hx⟩
            · exact .inl h
            · right; omega
            · right
              have := HC.out.new p x hp j hx
              omega
          go_ret
          exact ⟨_, s + 1, c.g, rfl, hr9, fun p => hrc.out.g p (by simp), hsz.symm ▸ hR9, hM9, hsz.symm ▸ hfp9⟩
        | some p =>
          rw [ho] at hs2
          simp only at hs2
          obtain ⟨hil, hpo⟩ := List.getElem?_eq_some_iff.1 ho
          have hil2 : i2 < c.ord.length := by rw [hrc.out.ord]; exact hil
          have hpo2 : c.ord[i2] = p := by rw [← hpo]; simp only [hrc.out.ord]
          obtain ⟨a2, cv2, hv2, hel⟩ := at_ord hcw.out hil2
          obtain ⟨rfl, rfl⟩ : Av = some a2 ∧ cv = cv2 := by simpa using hv2
          rw [hpo2] at hel
          have q2 : decide (i2 < c.ord.length) = true := decide_eq_true hil2
          have q1 : decide ((i2 : Int) < (c.ord.length : Int)) = true := decide_eq_true (by omega)
          have p0 : (0 : Int) ≤ (i2 : Int) := by omega
          have q0 : (i2 : Int) < (c.ord.length : Int) := by omega
          cases hfd : find pc.g p with
          | none => rw [hfd] at hs2; cases hs2
          | some nd0 =>
            rw [hfd] at hs2
            simp only at hs2
            cases hml : pMoveL l pc nd0.fs with
            | none => rw [hml] at hs2; cases hs2
            | some pp =>
              obtain ⟨pcn, fsn⟩ := pp
              rw [hml] at hs2
              simp only at hs2
              have hgp := hrc.out.g p (by simp)
              rw [hfd] at hgp
              obtain ⟨⟨nd, z⟩, hgz, hnn⟩ := Option.map_eq_some_iff.1 hgp
              simp only at hnn
              subst hnn
              obtain ⟨A9, c9, hz⟩ := Kd.R_slice (hcw.out.nx.rows p _ hgz)
              simp only at hz
              subst hz
              have J0 : Aside0 (wr.drew.cell? ⟨s + 3, 0, none⟩ = some (.pointer (some ⟨s + 2, 0, none⟩))) := ⟨(blk_cell hcw.out.b5 0).trans rfl⟩
              have J1 : Aside0 (wr.drew.cell? ⟨s + 2, 2, none⟩ = some (.map (some (s + 1)))) := ⟨hcw.out.nx.cells.2.2.1⟩
              have J2 : Aside0 (wr.drew.cell? ⟨s + 6, 0, none⟩ = some (.slice (some a2) c.ord.length cv)) := ⟨(blk_cell hcw.out.b7 0).trans rfl⟩
              have J3 : Aside0 (wr.drew.cell? (a2.add i2) = some (.int .i64 p)) := ⟨hel⟩
              have hcd := Aside0.mk (hcw.out.below (below_drew1 (Below.refl _ wr)))
              have J4 := Aside0.mk (look9 hcd.out.nx hgz rfl)
              have hRd := Aside0.mk (R33_step (W1 := wr.drew) hR.out (fun _ _ => rfl) hR.out.1)
              have hbd := Aside0.mk (show Below s W wr.drew from hb.out.drew)
              have hs9 := Aside0.mk hs2
              have hgz9 := Aside0.mk hgz
              have hml9 := Aside0.mk hml
              clear hs2 hml hgz hgp ho hfd hel hil hpo hv2 hpo2
              have hfld : ∀ w, (Instr.field 54 (.agg #[.int .i64 nd.tag, .slice A9 nd.fs.length c9, .int .i64 nd.link]) 1).run Tryd.prog w = .ok (.slice A9 nd.fs.length c9) w := fun w => field54s nd.tag nd.link _ w
              go_wp2
              refine start_ (n := 11) (S := fun w' => w'.cell? ⟨s + 3, 0, none⟩ = some (.pointer (some ⟨s + 2, 0, none⟩)) ∧ w'.cell? ⟨s + 2, 2, none⟩ = some (.map (some (s + 1))) ∧ w'.cell? ⟨s + 6, 0, none⟩ = some (.slice (some a2) c.ord.length cv) ∧ w'.cell? (a2.add i2) = some (.int .i64 p) ∧ (Instr.lookup 46 (.map (some (s + 1))) (.int .i64 p) false).run Tryd.prog w' = .ok (.agg #[.int .i64 nd.tag, .slice A9 nd.fs.length c9, .int .i64 nd.link]) w') (ds := []) #[false, false, false, false, false, false, false, false, false, false, false] (by kernel_rfl) rfl rfl ⟨J0.out, J1.out, J2.out, J3.out, J4.out⟩ (fun hHeld => ?_)
              generalize wr.drew = w5 at *
              refine pure_ (i := 5) (N := some 48) (v := ?_) (a' := ?_) #[false, false, false, false, false, true, false, false, false, false, false] rfl rfl (by kernel_rfl) (fun _ _ _ h => h) (Or.inl ⟨by rfl, ?_⟩) ?_ ?_
              rotate_left
              · intro w'
                go_simp
                with_reducible rfl
              rotate_left
              · simp only [Act.put, List.setIfInBounds_toArray, List.set_cons_zero, List.set_cons_succ, i64_w, i32_w]
                rfl
              refine take_ (i := 0) (N := some 43) (v := ?_) (a' := ?_) #[true, false, false, false, false, true, false, false, false, false, false] rfl rfl (by kernel_rfl) (fun _ _ _ h => h) (Or.inl ⟨by rfl, ?_⟩) hHeld ?_ ?_
              rotate_left
              · rintro w' ⟨s0, s1, s2, s3, s4⟩
                go_simp
                with_reducible rfl
              rotate_left
              · simp only [Act.put, List.setIfInBounds_toArray, List.set_cons_zero, List.set_cons_succ, i64_w, i32_w]
                rfl
              refine pure_ (i := 1) (N := some 44) (v := ?_) (a' := ?_) #[true, true, false, false, false, true, false, false, false, false, false] rfl rfl (by kernel_rfl) (fun _ _ _ h => h) (Or.inl ⟨by rfl, ?_⟩) ?_ ?_
              rotate_left
              · intro w'
                go_simp
                with_reducible rfl
              rotate_left
              · simp only [Act.put, List.setIfInBounds_toArray, List.set_cons_zero, List.set_cons_succ, i64_w, i32_w]
                rfl
              refine pure_ (i := 2) (N := some 45) (v := ?_) (a' := ?_) #[true, true, true, false, false, true, false, false, false, false, false] rfl rfl (by kernel_rfl) (fun _ _ _ h => h) (Or.inl ⟨by rfl, ?_⟩) ?_ ?_
              rotate_left
              · intro w'
                go_simp
                with_reducible rfl
              rotate_left
              · simp only [Act.put, List.setIfInBounds_toArray, List.set_cons_zero, List.set_cons_succ, i64_w, i32_w]
                rfl
              refine take_ (i := 3) (N := some 46) (v := ?_) (a' := ?_) #[true, true, true, true, false, true, false, false, false, false, false] rfl rfl (by kernel_rfl) (fun _ _ _ h => h) (Or.inl ⟨by rfl, ?_⟩) hHeld ?_ ?_
              rotate_left
              · rintro w' ⟨s0, s1, s2, s3, s4⟩
                go_simp
                with_reducible rfl
              rotate_left
              · simp only [Act.put, List.setIfInBounds_toArray, List.set_cons_zero, List.set_cons_succ, i64_w, i32_w]
                rfl
              refine take_ (i := 4) (N := some 47) (v := ?_) (a' := ?_) #[true, true, true, true, true, true, false, false, false, false, false] rfl rfl (by kernel_rfl) (fun _ _ _ h => h) (Or.inl ⟨by rfl, ?_⟩) hHeld ?_ ?_
              rotate_left
              · rintro w' ⟨s0, s1, s2, s3, s4⟩
                go_simp
                with_reducible rfl
              rotate_left
              · simp only [Act.put, List.setIfInBounds_toArray, List.set_cons_zero, List.set_cons_succ, i64_w, i32_w]
                rfl
              refine pure_ (i := 6) (N := some 49) (v := ?_) (a' := ?_) #[true, true, true, true, true, true, true, false, false, false, false] rfl rfl (by kernel_rfl) (fun _ _ _ h => h) (Or.inl ⟨by rfl, ?_⟩) ?_ ?_
              rotate_left
              · intro w'
                go_simp
                with_reducible rfl
              rotate_left
              · simp only [Act.put, List.setIfInBounds_toArray, List.set_cons_zero, List.set_cons_succ, i64_w, i32_w]
                rfl
              refine take_ (i := 7) (N := some 50) (v := ?_) (a' := ?_) #[true, true, true, true, true, true, true, true, false, false, false] rfl rfl (by kernel_rfl) (fun _ _ _ h => h) (Or.inl ⟨by rfl, ?_⟩) hHeld ?_ ?_
              rotate_left
              · rintro w' ⟨s0, s1, s2, s3, s4⟩
                go_simp
                with_reducible rfl
              rotate_left
              · simp only [Act.put, List.setIfInBounds_toArray, List.set_cons_zero, List.set_cons_succ, i64_w, i32_w]
                rfl
              refine take_ (i := 8) (N := some 51) (v := ?_) (a' := ?_) #[true, true, true, true, true, true, true, true, true, false, false] rfl rfl (by kernel_rfl) (fun _ _ _ h => h) (Or.inl ⟨by rfl, ?_⟩) hHeld ?_ ?_
              rotate_left
              · rintro w' ⟨s0, s1, s2, s3, s4⟩
                go_simp
                with_reducible rfl
              rotate_left
              · simp only [Act.put, List.setIfInBounds_toArray, List.set_cons_zero, List.set_cons_succ, i64_w, i32_w]
                rfl
              refine pure_ (i := 9) (N := some 52) (v := ?_) (a' := ?_) #[true, true, true, true, true, true, true, true, true, true, false] rfl rfl (by kernel_rfl) (fun _ _ _ h => h) (Or.inl ⟨by rfl, ?_⟩) ?_ ?_
              rotate_left
              · intro w'
                go_simp
                with_reducible rfl
              rotate_left
              · simp only [Act.put, List.setIfInBounds_toArray, List.set_cons_zero, List.set_cons_succ, i64_w, i32_w]
                rfl
              refine pure_ (i := 10) (N := some 13) (v := ?_) (a' := ?_) #[true, true, true, true, true, true, true, true, true, true, true] rfl rfl (by kernel_rfl) (fun _ _ _ h => h) (Or.inl ⟨by rfl, ?_⟩) ?_ ?_
              rotate_left
              · intro w'
                go_simp
                with_reducible rfl
              rotate_left
              · simp only [Act.put, List.setIfInBounds_toArray, List.set_cons_zero, List.set_cons_succ, i64_w, i32_w]
                rfl
              refine done_ (by kernel_rfl) ?_
              go_wp2
              clear hfld
              go_loopg [55] (nd.fs.length + 1) (fun kq v55 w' => ∃ (k : Nat) (c2 : CS) (v2 : Value) (pc3 : PC) (fd ft : List S33), v55 = .int .i64 (k : Int) ∧ k + kq = nd.fs.length + 1 ∧ 1 ≤ kq ∧ Aside0 (fd.length = k) ∧ Aside0 (CW w' base b mb half used n f s c2 v2) ∧ Aside0 (RC (some p) pc3 c2) ∧ Aside0 (c2.g p = some ({ nd with fs := fd ++ nd.fs.drop k }, .slice A9 nd.fs.length c9)) ∧ Aside0 (pMoveL l pc3 (nd.fs.drop k) = some (pcn, ft)) ∧ Aside0 (fd ++ ft = fsn) ∧ Aside0 (Kd.R k33 33 w' s (okO s c2 v2) (.slice A1 m1 c1) done) ∧ Aside0 (Below s W w'))
              case atStart => exact ⟨0, c, _, pc, [], fsn, rfl, by omega, by omega, ⟨rfl⟩, hcd, ⟨hrc.out.weaken p⟩, hgz9, hml9, ⟨rfl⟩, hRd, hbd⟩
              case round =>
                obtain ⟨k, c2, v2, pc3, fd, ft, rfl, hik, hk1, hfd, hcw2, hrc2, hg2, hpm2, hft, hR2, hb2⟩ := hrel
                by_cases hlk : k < nd.fs.length
                · have r1 : decide (k < nd.fs.length) = true := decide_eq_true hlk
                  have r2 : decide ((k : Int) < (nd.fs.length : Int)) = true := decide_eq_true (by omega)
                  have r3 : (0 : Int) ≤ (k : Int) := by omega
                  have r4 : (k : Int) < (nd.fs.length : Int) := by omega
                  have hcl : (fd ++ nd.fs.drop k).length = nd.fs.length := by rw [List.length_append, List.length_drop, hfd.out]; omega
                  obtain ⟨g9, c9', hv9, _⟩ := Kd.R_form (hcw2.out.nx.rows p _ hg2.out) (show 0 < (fd ++ nd.fs.drop k).length by omega)
                  obtain ⟨rfl, rfl⟩ : A9 = some ⟨g9, 0, none⟩ ∧ c9 = c9' := by
                    simp only [Value.slice.injEq] at hv9
                    exact ⟨hv9.1, hv9.2.2⟩
                  have hyk : (fd ++ nd.fs.drop k)[k]'(by rw [hcl]; exact hlk) = nd.fs[k] := by
                    rw [List.getElem_append_right (by rw [hfd.out]; exact Nat.le_refl k)]
                    simp [hfd.out]
                  obtain ⟨e0, e1, _, _⟩ := at_row hcw2.out hg2.out hcl (k := k) (by show k < (fd ++ nd.fs.drop k).length; rw [hcl]; exact hlk)
                  simp only [hyk] at e0 e1
                  have hp2 := hpm2.out
                  rw [List.drop_eq_getElem_cons hlk] at hp2
                  obtain ⟨pc4, x, ft2, hpx, hpr, htd⟩ := pMoveL_cons hp2
                  have C := move_p hcw2.out hf.out hrc2.out hpx
                  have hpr := Aside0.mk hpr
                  have htd := Aside0.mk htd
                  have hcl9 := Aside0.mk hcl
                  have hsm := Aside0.mk (set_mid hfd.out hlk x)
                  clear hpx hp2 hyk hcl hv9
                  generalize nd.fs[k] = y at *
                  go_wp2_with (first | (go_at_call 25; (with_reducible refine C.mono ?_); rintro e w1 ⟨rfl, c', v', st⟩; have ST := Aside0.mk st; have HO := Aside0.mk (st.out hR2.out); have hgk := Aside0.mk (st.keep _ _ hg2.out); obtain ⟨e2, e3, e4, e5⟩ := at_row st.cw hgk.out hcl9.out (k := k) (by show k < (fd ++ nd.fs.drop k).length; rw [hcl9.out]; exact hlk); clear st))
                  have hbn : nd.fs.length ≤ 9223372036854775807 := by
                    have := (Kd.R_reads' (hcw2.out.nx.rows p _ hg2.out)).2.2.2.1
                    rwa [hcl9.out] at this
                  have hq' : c'.g p = some ({ nd with fs := fd ++ nd.fs.drop k }, .slice (some ⟨g9, 0, none⟩) (fd ++ nd.fs.drop k).length c9) := by rw [hcl9.out]; exact hgk.out
                  have HS := ST.out.cw.setF hq' (i := k) (by show k < (fd ++ nd.fs.drop k).length; rw [hcl9.out]; exact hlk) x
                  have hfc : FC c' v' g9 := .inr ⟨p, _, hgk.out, rfl⟩
                  have hg7 := ST.out.cw.fc_ge hfc
                  have hne : ∀ j, (Value.slice A1 m1 c1).ownBlock = some j → j ≠ g9 := fun j hj e => (HO.out.1 j hj).2 (e ▸ hfc)
                  have HO2 := R33_step (W1 := (w1.setCell ⟨g9, k * 2, none⟩ (.bool x.f0)).setCell ⟨g9, k * 2 + 1, none⟩ (.int .i64 x.f1)) (ok' := okO s { c' with g := updM c'.g p ({ nd with fs := fd ++ [x] ++ nd.fs.drop (k + 1) }, .slice (some ⟨g9, 0, none⟩) nd.fs.length c9) } v') HO.out (fun j hj => (Below.heap_setCell _ _ _ j (hne j hj)).trans (Below.heap_setCell _ _ _ j (hne j hj))) (fun j hj => ⟨(HO.out.1 j hj).1, fun e => (HO.out.1 j hj).2 (fc_setF hgk.out e)⟩)
                  rw [hcl9.out] at HS
                  simp only [hsm.out] at HS
                  go_roundg (gk - 1)
                  case measure => omega
                  case rel => exact ⟨k + 1, { c' with g := updM c'.g p ({ nd with fs := fd ++ [x] ++ nd.fs.drop (k + 1) }, .slice (some ⟨g9, 0, none⟩) nd.fs.length c9) }, v', pc4, fd ++ [x], ft2, by rw [show wrap64 ((k : Int) + 1) = ((k + 1 : Nat) : Int) by unfold wrap64; omega], by omega, by omega, ⟨by simp [hfd.out]⟩, ⟨HS⟩, ⟨ST.out.rc.setF hgk.out⟩, ⟨updM_same _ _ _⟩, hpr, ⟨by rw [← hft.out, htd.out]; simp⟩, ⟨HO2⟩, ⟨((hb2.out.trans (ST.out.md.below (B := s) (by have := hcw2.out.lt; omega) (fun j _ hj => hcw2.out.fcm_ge hj))).setCell (show s ≤ g9 by omega) _).setCell (show s ≤ g9 by omega) _⟩⟩
                · have r1 : decide (k < nd.fs.length) = false := decide_eq_false hlk
                  have r2 : decide ((k : Int) < (nd.fs.length : Int)) = false := decide_eq_false (by omega)
                  have hp2 := hpm2.out
                  rw [List.drop_eq_nil_of_le (by omega)] at hp2
                  simp only [pMoveL, Option.some.injEq, Prod.mk.injEq] at hp2
                  obtain ⟨rfl, rfl⟩ := hp2
                  have hfn := hft.out
                  rw [List.append_nil] at hfn
                  subst hfn
                  have hgn := Aside0.mk hg2.out
                  rw [List.drop_eq_nil_of_le (by omega), List.append_nil] at hgn
                  go_wp2
                  go_roundg k'
                  case measure => omega
                  case rel => exact ⟨i2 + 1, c2, v2, _, congrArg (Value.int .i64) (by omega), by omega, hcw2, ⟨hrc2.out.fill hgn.out⟩, hs9, hR2, hb2⟩
end
end Go.Proofs.YtepaddjjdhpmpaaDoor.HeapA
