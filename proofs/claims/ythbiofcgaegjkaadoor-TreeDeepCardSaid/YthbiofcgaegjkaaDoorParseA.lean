/- The plain function of tree.Parse; the state of its loop in memory (the words, the open lists). No condition. -/
import Derived.Test.YthbiofcgaegjkaaDoorPTreeLx1
import Derived.Test.YthbiofcgaegjkaaDoorInv
import Derived.Deep.RegionHeld3
import Derived.Deep.RegionLaw
namespace Go.Proofs.YthbiofcgaegjkaaDoor.Parse
open Go.RowKit Go.Proofs.YthbiofcgaegjkaaDoorW.PrintWords Go.Proofs.YthbiofcgaegjkaaDoorW.PrintLast Go.Proofs.YthbiofcgaegjkaaDoorW.PrintMore Go.Proofs.YthbiofcgaegjkaaDoor.PTreeA Go.Proofs.YthbiofcgaegjkaaDoor.PTreeL Go.Proofs.YthbiofcgaegjkaaDoor.ExtE Go.Proofs.YthbiofcgaegjkaaDoor.Inv
set_option linter.unusedVariables false
set_option linter.unusedSimpArgs false

/-! ### the plain function -/
def addTo (opn : List S39) (y : S39) : List S39 := match opn[opn.length - 1]? with
  | some x => opn.set (opn.length - 1) { x with f1 := x.f1 ++ [y] }
  | none => opn
def stepW (opn : List S39) (w : S46) : Except Int (List S39) :=
  if w.f0.toList = [40] then (if opn.length = 201 then .error (1000 * w.f1 + 605) else .ok (opn ++ [⟨⟨#[]⟩, [], w.f1⟩]))
  else if w.f0.toList = [41] then (if opn.length = 1 then .error (1000 * w.f1 + 607) else match opn[opn.length - 1]? with
    | some x => .ok (addTo (opn.take (opn.length - 1)) x)
    | none => .ok opn)
  else .ok (addTo opn ⟨w.f0, [], w.f1⟩)
def run : List S46 → List S39 → List S39 × Option Int
  | [], opn => if 1 < opn.length then ([], some (1000 * (opn.getD (opn.length - 1) z39).f2 + 606)) else ((opn.getD 0 z39).f1, none)
  | w :: ws, opn => match stepW opn w with
    | .error e => ([], some e)
    | .ok o => run ws o
def start : List S39 := [⟨⟨#[]⟩, [], 0⟩]
def tree_Parse.f (k : Nat) (a0 : ByteArray) : Option (List S39 × Option Int) := (lex_Words.f k a0).bind fun q => match q.2 with
  | some c => if c % 1000 < 500 then some ([], some c) else none
  | none => if q.1.length ≤ 65536 then some (run q.1 start) else none
theorem tree_Parse.mono : ∀ a0 k, LeO (tree_Parse.f k a0) (tree_Parse.f (k + 1) a0) := by
  intro a0 k r h
  unfold tree_Parse.f at h ⊢
  obtain ⟨q, hq, h⟩ := Option.bind_eq_some_iff.mp h
  exact Option.bind_eq_some_iff.mpr ⟨q, lex_Words.mono a0 k q hq, h⟩

/-! ### the state of the loop in memory -/
section
variable {w W W1 : World} {g cap : Nat} {opn : List S39} {qs : List Q} {t : Nat} {v1 : Value} {L1 : List S39} {vW : Value} {ws : List S46}
structure St (w W : World) (vW : Value) (ws : List S46) (g cap : Nat) (opn : List S39) (qs : List Q) : Prop where
  inv : Inv W w.heap.size g cap opn qs
  wr : Kd.R k46 46 W w.heap.size (fun _ => True) vW ws
  hb : Below w.heap.size w W
structure Sd (w W : World) (vW : Value) (ws : List S46) (g cap : Nat) (opn : List S39) (qs : List Q) (t : Nat) (v1 : Value) (L1 : List S39) : Prop where
  det : Det W w.heap.size g cap opn qs t v1 L1
  wr : Kd.R k46 46 W w.heap.size (fun _ => True) vW ws
  hb : Below w.heap.size w W
/-- A list that was taken off, apart from all that lies open. -/
def TX (w W : World) (g : Nat) (qs : List Q) (t : Nat) (v1 : Value) (u : Value) (x : S39) : Prop := Kd.R k39 39 W w.heap.size (fun k => okD g qs t v1 t k ∧ some k ≠ v1.ownBlock) u x.f1
theorem ne46 : ∀ q, q ∈ 46 :: k46.E → q ≠ 39 := by decide
theorem sp_typed {base : Nat} (h : Kd.R kQ 39 W base (fun _ => True) (.slice (some ⟨g, 0, none⟩) opn.length cap) qs) : ∃ cells, W.heap[g]? = some (.cells cells 39 (0, 0)) := by
  obtain ⟨inner, ho⟩ := Kd.R_own h
  exact own_typed ho g (by simp [Value.ownBlock])
theorem row_typed {base : Nat} {ok : Nat → Prop} (h : Kd.R k39 39 W base ok v1 L1) : ∀ k, v1.ownBlock = some k → ∃ cells, W.heap[k]? = some (.cells cells 39 (0, 0)) := by
  obtain ⟨inner, ho⟩ := Kd.R_own h
  exact own_typed ho
theorem St.below (h : St w W vW ws g cap opn qs) (hb : Below W.heap.size W W1) : St w W1 vW ws g cap opn qs :=
  ⟨h.inv.below hb, Kd.R_below h.wr hb, below_step h.hb hb⟩
theorem Sd.below (h : Sd w W vW ws g cap opn qs t v1 L1) (hb : Below W.heap.size W W1) : Sd w W1 vW ws g cap opn qs t v1 L1 :=
  ⟨h.det.below hb, Kd.R_below h.wr hb, below_step h.hb hb⟩
theorem St.det (h : St w W vW ws g cap opn qs) {q : Q} {x : S39} (hq : qs[t]? = some q) (hx : opn[t]? = some x) : Sd w W vW ws g cap opn qs t q.v x.f1 := ⟨h.inv.det hq hx, h.wr, h.hb⟩
theorem Sd.inv (h : Sd w W vW ws g cap opn qs t v1 L1) {q : Q} {x : S39} (hq : qs[t]? = some q) (hv : q.v = v1) (hx : opn[t]? = some x) : St w W vW ws g cap (opn.set t { x with f1 := L1 }) qs := ⟨h.det.inv hq hv hx, h.wr, h.hb⟩
theorem Sd.grown {v2 : Value} {L2 : List S39} (h : Sd w W vW ws g cap opn qs t v1 L1) (hg : W.grownBy W1 v1.ownBlock) (hat : v2.ownBlock = v1.ownBlock ∨ ∃ b, v2.ownBlock = some b ∧ W.heap.size ≤ b)
    (hr : Kd.R k39 39 W1 w.heap.size (okD g qs t v1 t) v2 L2) (hB : Below w.heap.size w W1) : Sd w W1 vW ws g cap opn qs t v2 L2 :=
  ⟨h.det.grown hg hat hr, Kd.R_over' h.wr (row_typed h.det.row) ne46 hg, hB⟩
theorem Sd.put (h : Sd w W vW ws g cap opn qs t v1 L1) {q : Q} (hq : qs[t]? = some q) : Sd w (W.setCell ⟨g, t * 3 + 1, none⟩ v1) vW ws g cap opn (qs.set t { q with v := v1 }) t v1 L1 := by
  obtain ⟨cells, hc⟩ := sp_typed h.det.sp
  refine ⟨h.det.put hq, Kd.R_set h.wr hc ne46 _ _, below_set h.hb ?_⟩
  exact Kd.R_base h.det.sp g (by simp [Value.ownBlock])
/-- An element of the list at v1 is written whole. -/
theorem Sd.elem {g1 c1 : Nat} (h : Sd w W vW ws g cap opn qs t (.slice (some ⟨g1, 0, none⟩) L1.length c1) L1) {i : Nat} (hi : i < L1.length) {x' : S39} {a b c : Value} {okp : Nat → Prop}
    (hM : k39.M W w.heap.size okp x' [a, b, c]) (hokp : ∀ k, okp k → okD g qs t (.slice (some ⟨g1, 0, none⟩) L1.length c1) t k ∧ k ≠ g1) :
    Sd w (((W.setCell ⟨g1, i * 3, none⟩ a).setCell ⟨g1, i * 3 + 1, none⟩ b).setCell ⟨g1, i * 3 + 2, none⟩ c) vW ws g cap opn qs t (.slice (some ⟨g1, 0, none⟩) L1.length c1) (L1.set i x') := by
  obtain ⟨d, hdl, hdM, hdc, hf⟩ := Kd.R_elem h.det.row z39 (i : Int) (by omega) (by omega)
  have hdl3 : d.length = 3 := hdl
  have h1 := Kd.R_seg (d := k39) h.det.row (i : Int) (by omega) (by omega) (c := d) (seg := [a, b, c]) (j := 0) hdl hdc (show 0 + 3 ≤ 3 by decide) (x' := x') (okp := okp) (by
    have : d.drop (0 + [a, b, c].length) = [] := List.drop_eq_nil_of_le (by simp [hdl3])
    rw [this]
    exact hM) (fun k hk => hokp k hk)
  refine Sd.grown h h1.2 (.inl rfl) h1.1 (Below.grown h.hb h1.2 h.hb.size (fun k hk => ?_))
  injection hk with hk
  subst hk
  exact Kd.R_base h.det.row _ (by simp [Value.ownBlock])
theorem TX.below {u : Value} {x : S39} (h : TX w W g qs t v1 u x) (hb : Below W.heap.size W W1) : TX w W1 g qs t v1 u x := Kd.R_below h hb
theorem TX.grown {u : Value} {x : S39} {v2 : Value} (h : TX w W g qs t v1 u x) (hg : W.grownBy W1 v1.ownBlock) (hat : v2.ownBlock = v1.ownBlock ∨ ∃ b, v2.ownBlock = some b ∧ W.heap.size ≤ b) : TX w W1 g qs t v2 u x := by
  refine Kd.R_mono (Kd.R_grown (Kd.R_bound h) hg (fun k hk => hk.1.2)) (fun k hk => ⟨⟨hk.1.1.1, fun hc => absurd rfl hc, hk.1.1.2.2⟩, ?_⟩)
  rcases hat with hat | ⟨b, hb, hle⟩
  · rw [hat]; exact hk.1.2
  · rw [hb]
    intro he
    injection he with he
    have := hk.2.2.1
    omega
theorem TX.put {u : Value} {x : S39} {q : Q} (h : TX w W g qs t v1 u x) (o : Nat) (z : Value) : TX w (W.setCell ⟨g, o, none⟩ z) g (qs.set t q) t v1 u x :=
  Kd.R_mono (Kd.R_far h (p := ⟨g, o, none⟩) (fun k hk => hk.1.1) z) (fun k hk => ⟨⟨hk.1.1, fun hc => absurd rfl hc, fun j q2 hj _ h2 => by
    rcases getElem?_set_ h2 with ⟨rfl, _⟩ | ⟨_, h3⟩
    · exact absurd rfl hj
    · exact hk.1.2.2 j q2 hj hj h3⟩, hk.2⟩)
/-- A new open list. -/
theorem St.push {v2 : Value} (h : St w W vW ws g cap opn qs) (p : Int) (hg : W.grownBy W1 (some g)) (hat : v2.ownBlock = some g ∨ ∃ b, v2.ownBlock = some b ∧ W.heap.size ≤ b)
    (hr : Kd.R kQ 39 W1 w.heap.size (fun _ => True) v2 (qs ++ [⟨⟨#[]⟩, .slice none 0 0, p⟩])) (hB : Below w.heap.size w W1) :
    ∃ g1 cap1, v2 = .slice (some ⟨g1, 0, none⟩) (opn ++ [(⟨⟨#[]⟩, [], p⟩ : S39)]).length cap1 ∧ St w W1 vW ws g1 cap1 (opn ++ [⟨⟨#[]⟩, [], p⟩]) (qs ++ [⟨⟨#[]⟩, .slice none 0 0, p⟩]) := by
  obtain ⟨g1, cap1, hv, _⟩ := Kd.R_form hr (by simp)
  have hl2 : (qs ++ [(⟨⟨#[]⟩, .slice none 0 0, p⟩ : Q)]).length = (opn ++ [(⟨⟨#[]⟩, [], p⟩ : S39)]).length := by simp [h.inv.len]
  rw [hl2] at hv
  subst hv
  refine ⟨g1, cap1, rfl, h.inv.push ⟨⟨#[]⟩, [], p⟩ rfl hg ?_ hr, Kd.R_over' (v := .slice (some ⟨g, 0, none⟩) opn.length cap) h.wr ?_ ne46 (by simpa [Value.ownBlock] using hg), hB⟩
  · rcases hat with hat | ⟨b, hb, hle⟩
    · left
      simpa [Value.ownBlock] using hat
    · right
      have : g1 = b := by simpa [Value.ownBlock] using hb
      omega
  · obtain ⟨cells, hc⟩ := sp_typed h.inv.sp
    intro k hk
    have : g = k := by simpa [Value.ownBlock] using hk
    subst this
    exact ⟨cells, hc⟩
/-- The last open list is closed: taken off. -/
theorem St.cut (h : St w W vW ws g cap opn qs) {m t : Nat} (hm : opn.length = m + 1) (ht : t < m) {q qt : Q} {x : S39} (hq : qs[m]? = some q) (hx : opn[m]? = some x) (hqt : qs[t]? = some qt) :
    St w W vW ws g cap (opn.take m) (qs.take m) ∧ TX w W g (qs.take m) t qt.v q.v x := by
  obtain ⟨h1, h2⟩ := h.inv.cut hm hq hx
  refine ⟨⟨h1, h.wr, h.hb⟩, Kd.R_mono h2 (fun k hk => ⟨⟨hk.1.1, fun hc => absurd rfl hc, fun j q2 _ _ h3 => hk.1.2 j q2 h3⟩, ?_⟩)⟩
  exact hk.1.2 t qt (by rw [List.getElem?_take, if_pos ht]; exact hqt)
end
end Go.Proofs.YthbiofcgaegjkaaDoor.Parse
