/- Small lemmas for the walk of tree.Parse: two last stores in either order; what cells hold. No condition. -/
import Derived.Test.YthbiofcgaegjkaaDoorParseA
namespace Go.Proofs.YthbiofcgaegjkaaDoor.Parse
open Go.RowKit Go.Proofs.YthbiofcgaegjkaaDoorW.PrintWords Go.Proofs.YthbiofcgaegjkaaDoorW.PrintLast Go.Proofs.YthbiofcgaegjkaaDoorW.PrintMore Go.Proofs.YthbiofcgaegjkaaDoor.PTreeA Go.Proofs.YthbiofcgaegjkaaDoor.PTreeL Go.Proofs.YthbiofcgaegjkaaDoor.ExtE Go.Proofs.YthbiofcgaegjkaaDoor.Inv
set_option linter.unusedVariables false
set_option linter.unusedSimpArgs false
section
variable {P : Program} {ops : Array Oper} {Q : Exit → Act → World → Prop} {md : Region.Mode} {S : World → Prop} {ds : List Nat}
/-- Two of ds may come up, in either order. -/
theorem two_last_ {i j : Nat} {Ni Nj : Option Tmp} {oi oj : Oper} {fuel : Nat} {l : Array Bool} {a : Act} {w : World} (li lj : Array Bool) (hi : ops[i]? = some oi) (hj : ops[j]? = some oj) (hNi : oi.dst = Ni) (hNj : oj.dst = Nj)
    (hc : (Region.ready md ops l == [i, j] && l.setIfInBounds i true == li && l.setIfInBounds j true == lj) = true) (hdi : i ∈ ds) (hdj : j ∈ ds)
    (h1 : ∀ K : Act → World → Prop, Shut (∀ a' w', wpAnyLast P md ops Q S ds fuel li a' w' → K a' w') → if Region.wanted oi (yielded ops a.tmps) = true then Oper.wp P oi a w K Q else K (a.put Ni undef) w)
    (h2 : ∀ K : Act → World → Prop, Shut (∀ a' w', wpAnyLast P md ops Q S ds fuel lj a' w' → K a' w') → if Region.wanted oj (yielded ops a.tmps) = true then Oper.wp P oj a w K Q else K (a.put Nj undef) w) :
    wpAnyLast P md ops Q S ds (fuel + 1) l a w := by
  subst hNi
  subst hNj
  simp only [Bool.and_eq_true, beq_iff_eq] at hc
  obtain ⟨⟨h3, h4⟩, h5⟩ := hc
  subst h4
  subst h5
  exact wpAnyLast_ready h3 (by simp) (AllReadyL.cons_last hi hdi (fun K hK => h1 K hK) (AllReadyL.cons_last hj hdj (fun K hK => h2 K hK) AllReadyL.nil))
end
section
variable {w W W1 : World} {g cap g1 c1 n : Nat} {opn : List S39} {qs : List Q} {t : Nat} {v1 : Value} {L1 : List S39} {vW : Value} {ws : List S46}
theorem sp_cell {base : Nat} (h : Kd.R kQ 39 W base (fun _ => True) (.slice (some ⟨g, 0, none⟩) opn.length cap) qs) {i : Nat} {q : Q} (hil : i < opn.length) (hlen : qs.length = opn.length) (hq : qs[i]? = some q) :
    W.cell? ⟨g, i * 3, none⟩ = some (.string q.s) ∧ W.cell? ⟨g, i * 3 + 1, none⟩ = some q.v ∧ W.cell? ⟨g, i * 3 + 2, none⟩ = some (.int .i64 q.p) ∧ ∀ j, W.frozen? ⟨g, i * 3 + j, none⟩ = false := by
  obtain ⟨c, hcl, hM, hcc, hf⟩ := Kd.R_elem h zQ (i : Int) (by omega) (by omega)
  have hq' : qs.getD (i : Int).toNat zQ = q := by simp [List.getD_eq_getElem?_getD, hq]
  rw [hq'] at hM
  obtain ⟨hc, _⟩ := (show QM q c from hM)
  subst hc
  exact ⟨hcc 0 _ rfl, hcc 1 _ rfl, hcc 2 _ rfl, hf⟩
theorem Sd.spcell (h : Sd w W vW ws g cap opn qs t v1 L1) {q : Q} (hq : qs[t]? = some q) : W.cell? ⟨g, t * 3 + 1, none⟩ = some q.v ∧ W.frozen? ⟨g, t * 3 + 1, none⟩ = false :=
  ⟨(sp_cell h.det.sp h.det.lt h.det.len hq).2.1, (sp_cell h.det.sp h.det.lt h.det.len hq).2.2.2 1⟩
theorem Sd.elcell (h : Sd w W vW ws g cap opn qs t (.slice (some ⟨g1, 0, none⟩) n c1) L1) {i : Nat} (hi : i < L1.length) :
    ∃ a b c, W.cell? ⟨g1, i * 3, none⟩ = some a ∧ W.cell? ⟨g1, i * 3 + 1, none⟩ = some b ∧ W.cell? ⟨g1, i * 3 + 2, none⟩ = some c ∧ W.frozen? ⟨g1, i * 3, none⟩ = false ∧ W.frozen? ⟨g1, i * 3 + 1, none⟩ = false ∧ W.frozen? ⟨g1, i * 3 + 2, none⟩ = false := by
  obtain ⟨rfl, _⟩ := Kd.R_reads' h.det.row
  obtain ⟨d, hdl, hdM, hdc, hf⟩ := Kd.R_elem h.det.row z39 (i : Int) (by omega) (by omega)
  obtain ⟨v, rfl, _⟩ := k39_openM hdM
  exact ⟨_, _, _, hdc 0 _ rfl, hdc 1 _ rfl, hdc 2 _ rfl, hf 0, hf 1, hf 2⟩
theorem Sd.elem' (h : Sd w W vW ws g cap opn qs t (.slice (some ⟨g1, 0, none⟩) n c1) L1) (hn : n = L1.length) {i : Nat} (hi : i < L1.length) {x' : S39} {a b c : Value} {okp : Nat → Prop}
    (hM : k39.M W w.heap.size okp x' [a, b, c]) (hokp : ∀ k, okp k → okD g qs t (.slice (some ⟨g1, 0, none⟩) n c1) t k ∧ k ≠ g1) :
    Sd w (((W.setCell ⟨g1, i * 3, none⟩ a).setCell ⟨g1, i * 3 + 1, none⟩ b).setCell ⟨g1, i * 3 + 2, none⟩ c) vW ws g cap opn qs t (.slice (some ⟨g1, 0, none⟩) n c1) (L1.set i x') := by
  subst hn
  exact h.elem hi hM hokp
def Fin (w : World) (vW : Value) (ws : List S46) (g cap : Nat) (opn : List S39) (W : World) : Prop := ∃ qs, St w W vW ws g cap opn qs
theorem Sd.close {q : Q} {y : S39} (h : Sd w W vW ws g cap opn (qs.set t { q with v := v1 }) t v1 L1) (hq : qs[t]? = some q) (hy : opn[t]? = some y) : Fin w vW ws g cap (opn.set t { y with f1 := L1 }) W :=
  ⟨_, h.inv (q := { q with v := v1 }) (by rw [List.getElem?_set_self (List.getElem?_eq_some_iff.1 hq).1]) rfl hy⟩
end
end Go.Proofs.YthbiofcgaegjkaaDoor.Parse
