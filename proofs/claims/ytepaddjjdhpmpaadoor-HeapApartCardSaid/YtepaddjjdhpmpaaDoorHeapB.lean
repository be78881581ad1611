/- slices.Clone at words, heap.New, (*Heap).Alloc. No condition beyond those that each states. -/
import Derived.Test.YtepaddjjdhpmpaaDoorHeapA
import Derived.WalkSpells
namespace Go.Proofs.YtepaddjjdhpmpaaDoor.HeapA
open Go.RowKit Go.Proofs.YtepaddjjdhpmpaaDoorW.PrintWords Go.Proofs.YtepaddjjdhpmpaaDoorW.PrintLast Go.Proofs.YtepaddjjdhpmpaaDoorW.PrintMore Go.Proofs.YtepaddjjdhpmpaaDoor.HeapK Go.Proofs.YtepaddjjdhpmpaaDoor.PHeapP
open Go.Maps (Keyed has IsMap)
set_option linter.unusedVariables false
set_option linter.unusedSimpArgs false
section
variable {W W1 : World} {base b mb n : Nat} {half used : Int} {f : NM}
/-! ### what stays -/
structure Mod (W W' : World) (S : Nat → Prop) : Prop where
  os : W'.os = W.os
  tape : W'.tape = W.tape
  output : W'.output = W.output
  size : W.heap.size ≤ W'.heap.size
  block : ∀ i, i < W.heap.size → ¬ S i → W'.heap[i]? = W.heap[i]?
theorem Mod.refl (W : World) (S : Nat → Prop) : Mod W W S := ⟨rfl, rfl, rfl, Nat.le_refl _, fun _ _ _ => rfl⟩
theorem Mod.of_below {W W' : World} (h : Below W.heap.size W W') (S : Nat → Prop) : Mod W W' S := ⟨h.os, h.tape, h.output, h.size, fun i hi _ => h.block i hi⟩
theorem Mod.trans {W W' W2 : World} {S S' : Nat → Prop} (h : Mod W W' S) (h' : Mod W' W2 S') (hs : ∀ i, i < W.heap.size → S' i → S i) : Mod W W2 S :=
  ⟨h'.os.trans h.os, h'.tape.trans h.tape, h'.output.trans h.output, Nat.le_trans h.size h'.size, fun i hi hn => (h'.block i (Nat.lt_of_lt_of_le hi h.size) (fun hs' => hn (hs i hi hs'))).trans (h.block i hi hn)⟩
theorem Mod.mono {W W' : World} {S S' : Nat → Prop} (h : Mod W W' S) (hs : ∀ i, i < W.heap.size → S i → S' i) : Mod W W' S' := ⟨h.os, h.tape, h.output, h.size, fun i hi hn => h.block i hi (fun h' => hn (hs i hi h'))⟩
theorem Mod.below {B : Nat} {W W' : World} {S : Nat → Prop} (h : Mod W W' S) (hB : B ≤ W.heap.size) (hs : ∀ i, i < W.heap.size → S i → B ≤ i) : Below B W W' :=
  ⟨h.os, h.tape, h.output, h.size, fun i hi => h.block i (Nat.lt_of_lt_of_le hi hB) (fun h' => by have := hs i (Nat.lt_of_lt_of_le hi hB) h'; omega)⟩
theorem Mod.of_grown {W W' : World} {g : Nat} (h : W.grownBy W' (some g)) : Mod W W' (· = g) := ⟨h.os, h.tape, h.output, h.size, fun i hi hn => h.block i hi (fun e => hn (Option.some.inj e))⟩
theorem Mod.of_set (W : World) (p : Addr) (v : Value) : Mod W (W.setCell p v) (· = p.block) := by
  have hb := (Below.refl p.block W).setCell (Nat.le_refl p.block) v
  exact ⟨hb.os, hb.tape, hb.output, hb.size, fun i _ hn => Below.heap_setCell W p v i hn⟩
theorem R33_ok {base : Nat} {ok ok' : Nat → Prop} {W : World} {v : Value} {xs : List S33} (h : Kd.R k33 33 W base ok v xs) (hok : ∀ j, v.ownBlock = some j → ok' j) : Kd.R k33 33 W base ok' v xs := by
  obtain ⟨h0, inner, ho, hr⟩ := h
  exact ⟨hok, inner, ho, hr.imp_ (fun _ _ hm => by rw [k33_openM hm]; exact k33_mkM _ _ _ _)⟩
theorem R33_step {base : Nat} {ok ok' : Nat → Prop} {W W1 : World} {v : Value} {xs : List S33} (h : Kd.R k33 33 W base ok v xs) (hb : ∀ j, v.ownBlock = some j → W1.heap[j]? = W.heap[j]?) (hok : ∀ j, v.ownBlock = some j → ok' j) : Kd.R k33 33 W1 base ok' v xs :=
  R33_ok (Kd.R_step (R33_ok (ok' := fun j => v.ownBlock = some j) h (fun _ hj => hj)) (fun j hj _ => hb j hj)) hok
/-! ### slices.Clone -/
set_option maxHeartbeats 4000000 in
set_option maxRecDepth 100000 in
theorem clone_calls (ws : List S33) {A : Option Addr} {c : Nat} (hC : Kd.C k33 W A ws.length ws) (hl : ws.length * 16 ≤ 140737488355328) :
    Calls Tryd.prog 24 #[.slice A ws.length c] W fun e W' => ∃ v, e = .returned v ∧ Kd.R k33 33 W' W.heap.size (fun _ => True) v ws ∧ Below W.heap.size W W' := by
  have hq := Lib.run_eql_slice_nil (P := Tryd.prog) W 29 33 A ws.length c 0 0 Tryd.underlying29
  have hC9 := Aside0.mk hC
  have hl9 := Aside0.mk hl
  cases A with
  | none =>
    have hw : ws = [] := by
      cases ws with
      | nil => rfl
      | cons x xs => obtain ⟨ad, _, h, _⟩ := Kd.C_get hC z33 0 (by omega) (by simp); cases h
    subst hw
    have hq := Lib.run_eql_slice_nil (P := Tryd.prog) W 29 33 none 0 c 0 0 Tryd.underlying29
    clear hC hl
    show Calls Tryd.prog 24 #[.slice none 0 c] W _
    go_enter Tryd.func24, Tryd.ntmps24
    go_wp2
    go_ret
    exact ⟨.slice none 0 0, rfl, Kd.R_nil _ _ _ _ _, Below.refl _ _⟩
  | some ad =>
    have hb : Below W.heap.size W (W.alloc (.cells #[] 33)) := below_alloc (Below.refl _ _) _
    have hR : Kd.R k33 33 (W.alloc (.cells #[] 33)) W.heap.size (fun _ => True) (.slice (some ⟨W.heap.size, 0, none⟩) 0 0) ([] : List S33) :=
      ⟨fun _ _ => trivial, [], World.ownsRow_lit (base := W.heap.size) (e := 33) (size := 2) W #[] 0 (Nat.le_refl _) (by decide) rfl, ⟨rfl, fun j p hj => by simp at hj⟩⟩
    have hC2 := Kd.C_below hC hb
    have hR9 := Aside0.mk hR
    have hC29 := Aside0.mk hC2
    have hb9 := Aside0.mk hb
    clear hC hl hR hC2 hb
    go_enter Tryd.func24, Tryd.ntmps24
    go_wp2_with (((with_reducible refine gate_builtin (b := .append) (xs := #[.tmp 5, .tmp 6]) rfl ?_); at_builtin; refine Kd.R_append_rows k33 (Rr := k33.K (W.alloc (.cells #[] 33))) (w0 := W) W.heap.size rfl (.tmp 5) (.tmp 6) 29 33 (.agg #[.bool false, .int .i64 0]) 16 rfl Tryd.underlying29 info33 rfl (by decide) (by decide) (.slice (some ⟨W.heap.size, 0, none⟩) 0 0) [] ws (some ad) ws.length c (fun _ => True) (fun _ => False) rfl rfl ?aO ?aR ?aM (fun _ hk => hk.elim) (fun _ _ => trivial) ?aB ?aS ?aL ?_; (case aO => exact hR9.out); (case aR => exact hC29.out); (case aM => intro x cs hx; rw [k33_open hx]; exact k33_mkM _ _ _ x); (case aB => exact hb9.out); (case aS => exact hb9.out.size); (case aL => have := hl9.out; simp only [List.length_nil, Nat.zero_add]; exact this); intro v1 w1 ho hb1 hg hat; rw [List.nil_append] at ho; have HO := Aside0.mk ho; have HB1 := Aside0.mk hb1; clear ho hb1 hg hat))
    go_ret
    exact ⟨_, rfl, HO.out, HB1.out⟩
/-! ### New -/
set_option maxHeartbeats 4000000 in
theorem new_calls (words : Int) (h0 : 8 ≤ words) (h1 : words ≤ 1048576) : Calls Tryd.prog 10 #[.int .i64 words] W fun e W' => e = .returned (.tuple #[.pointer (some ⟨W.heap.size + 1, 0, none⟩), .nilIface]) ∧ HW W' W.heap.size (W.heap.size + 1) W.heap.size (words / 2) 0 0 (fun _ => none) ∧ Below W.heap.size W W' := by
  have c0 : decide (words < 8) = false := decide_eq_false (by omega)
  have c1 : decide (1048576 < words) = false := decide_eq_false (by omega)
  have hmm := @run_makeMap Tryd.prog
  go_enter Tryd.func10, Tryd.ntmps10
  go_wp2
  go_ret2
  refine ⟨rfl, ⟨?_, ?_, (fun p x h => by cases h), ⟨Nat.le_succ _, Nat.le_refl _⟩, (fun p x h => by cases h)⟩, below_alloc (below_alloc (Below.refl _ _) _) _⟩
  · have h := blk_new (W.alloc (.map #[] 0)) (.cells #[.int .i64 (words / 2), .int .i64 0, .map (some W.heap.size)] 48 (0, 0))
    rwa [show (W.alloc (.map #[] 0)).heap.size = W.heap.size + 1 from Array.size_push _] at h
  · have h := (MapF.made W Tryd.prog 2).of_block (W1 := (W.alloc (.map #[] 0)).alloc (.cells #[.int .i64 (words / 2), .int .i64 0, .map (some W.heap.size)] 48)) ((blk_alloc (blk_new W (.map #[] 0)) _).trans (blk_new W (.map #[] 0)).symm)
    have e : lits (fun _ => none) = fun _ => none := by
      funext l
      cases l with
      | int k p => cases k <;> rfl
      | _ => rfl
    rw [e]
    exact h
/-! ### Alloc -/
theorem size_calls (m : Int) (h0 : 0 ≤ m) (h1 : m ≤ 1000000) (w : World) : Calls Tryd.prog 20 #[.int .i64 m] w fun e w' => e = .returned (.int .i64 (mx (m + 2) 3)) ∧ Below w.heap.size w w' := by
  have := heap_size.calls m (mx (m + 2) 3) w (by unfold heap_size.f; rw [show wrap64 (m + 2) = m + 2 by unfold wrap64; omega])
  exact this
/-- A node more (or another node at a place). -/
def updM (f : NM) (p : Int) (x : Nd × Value) : NM := fun q => if q = p then some x else f q
theorem updM_same (f : NM) (p : Int) (x : Nd × Value) : updM f p x p = some x := if_pos rfl
theorem updM_ne (f : NM) {p q : Int} (x : Nd × Value) (h : q ≠ p) : updM f p x q = f q := if_neg h
theorem lits_upd {f : NM} {p : Int} {x : Nd × Value} {F : Lit → Option Value} (h1 : F (.int .i64 p) = some (nodeVal x)) (h2 : ∀ l, l ≠ .int .i64 p → F l = lits f l) : F = lits (updM f p x) := by
  funext l
  by_cases hl : l = .int .i64 p
  · subst hl
    rw [h1]
    simp [lits, updM]
  · rw [h2 l hl]
    cases l with
    | int k q =>
      cases k with
      | i64 =>
        have : q ≠ p := fun e => hl (by rw [e])
        simp only [lits, updM_ne f x this]
      | _ => rfl
    | _ => rfl
theorem key_is (p : Int) : WideAt.IsKeyLit (.int .i64 p) := by first | trivial | (simp [WideAt.IsKeyLit]) | exact ⟨⟩
end
end Go.Proofs.YtepaddjjdhpmpaaDoor.HeapA
