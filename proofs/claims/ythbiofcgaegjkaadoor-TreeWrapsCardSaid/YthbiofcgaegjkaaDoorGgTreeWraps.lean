/- What the row of TreeWraps lists of package-level variables gives the walk: where the errors lie, each apart from the others. -/
import Derived.Test.YthbiofcgaegjkaaDoorExtE
namespace Go.Proofs.YthbiofcgaegjkaaDoor.ExtE
open Go.RowKit Go.Proofs.YthbiofcgaegjkaaDoorW.PrintWords
set_option linter.unusedVariables false
theorem laid_sentinel_b {P : Program} {n nm : String} {text : List UInt8} {r : List (String × DataW Unit)} {W : World} {g : Nat} {ti tp te ts : TypeId} {ms : Array (String × TypeId)} {f : Field}
    (h : laidMet P ((n, .iface nm (.ptr (.agg [.lit (.string text)]))) :: r) W)
    (hg : P.globalNamed n = some g) (ht : (P.globals[g]?).map (·.type) = some ti) (hi : P.underlying ti = some (.interface ms)) (hrow : ∀ u, P.typeName? 3 u = some nm → u = tp)
    (hp : P.underlying tp = some (.pointer te)) (he : P.underlying te = some (.struct #[f])) (hft : f.type = ts) (hfo : f.offset = 0) (hs : P.underlying ts = some .string) (hc : P.cellsOf te = 1) (hcs : P.cellsOf ts = 1) :
    ∃ a : Addr, W.var? P n = some #[.iface tp (.pointer (some a))] ∧ (∃ ca ta, W.heap[a.block]? = some (.cells ca ta (0, 0))) ∧ ∃ s : ByteArray, W.cell? a = some (.string s) ∧ s.data.toList = text := by
  obtain ⟨ps, ⟨g0, t0, cs0, f0, p0, q0, hg0, ht0, hv0, hd0, _, e0⟩, _, hrows⟩ := h
  obtain rfl := Option.some.inj (hg.symm.trans hg0)
  obtain rfl := Option.some.inj (ht.symm.trans ht0)
  subst e0
  obtain ⟨l0⟩ := cs0
  have ok0 : ∀ u v, l0 = [.iface u v] → Value.okWide P W .any 0 u v := fun u v e => by
    subst e
    exact (hrows g 0 (by simp [MemPlace.row])).2 u v (by simpa using World.var?_cell hg0 hv0 0)
  obtain ⟨a0, s0, rfl, hc0, hs0, hz0, rfl⟩ := errorString_of_trod hi hrow hp he hft hfo hs hc hcs hd0 ok0
  obtain ⟨c0, t0, hb0⟩ := (hrows a0.block a0.off (by simp [MemPlace.row])).1
  exact ⟨a0, hv0, ⟨c0, t0, hb0⟩, s0, hc0, hs0⟩
theorem cellsN : Tryd.prog.cellsOf 90 = 1 := by kernel_rfl
theorem cellsS : Tryd.prog.cellsOf 9 = 1 := by kernel_rfl
theorem starE : "*" ++ "errors.errorString" = "*errors.errorString" := by decide
theorem rowE (u : TypeId) (h : Tryd.prog.typeName? 3 u = some "*errors.errorString") : u = 74 :=
  typeName_ptr_named (nm := "errors.errorString") (by rw [starE]; kernel_rfl) (by kernel_rfl) (by decide) u (by rw [starE]; exact h)
theorem gg_of_treeWraps {W : World} (h : laidMet Tryd.prog Rows.treeWrapsRow.laid W) : ∃ ad, GG ad W := by
  obtain ⟨a_ErrMany, hv_ErrMany, hb_ErrMany, hs_ErrMany⟩ := laid_sentinel_b (g := 3) h (by kernel_rfl) (by kernel_rfl) Tryd.underlying25 rowE Tryd.underlying74 Tryd.underlying90 rfl rfl Tryd.underlying9 cellsN cellsS
  have h1 := laidMet.tail h
  obtain ⟨a_ErrDeep, hv_ErrDeep, hb_ErrDeep, hs_ErrDeep⟩ := laid_sentinel_b (g := 0) h1 (by kernel_rfl) (by kernel_rfl) Tryd.underlying25 rowE Tryd.underlying74 Tryd.underlying90 rfl rfl Tryd.underlying9 cellsN cellsS
  have h2 := laidMet.tail h1
  obtain ⟨a_ErrOpen, hv_ErrOpen, hb_ErrOpen, hs_ErrOpen⟩ := laid_sentinel_b (g := 2) h2 (by kernel_rfl) (by kernel_rfl) Tryd.underlying25 rowE Tryd.underlying74 Tryd.underlying90 rfl rfl Tryd.underlying9 cellsN cellsS
  have h3 := laidMet.tail h2
  obtain ⟨a_ErrClose, hv_ErrClose, hb_ErrClose, hs_ErrClose⟩ := laid_sentinel_b (g := 1) h3 (by kernel_rfl) (by kernel_rfl) Tryd.underlying25 rowE Tryd.underlying74 Tryd.underlying90 rfl rfl Tryd.underlying9 cellsN cellsS
  exact ⟨fun c => if c = 104 then a_ErrMany else if c = 105 then a_ErrDeep else if c = 106 then a_ErrOpen else a_ErrClose, ⟨(by have h0 := World.var?_cell (show Tryd.prog.globalNamed "gristmill/api.ErrMany" = some 3 by kernel_rfl) hv_ErrMany 0; simp only [List.getElem?_toArray, List.getElem?_cons_zero] at h0; exact h0), (by have h0 := World.var?_cell (show Tryd.prog.globalNamed "gristmill/api.ErrDeep" = some 0 by kernel_rfl) hv_ErrDeep 0; simp only [List.getElem?_toArray, List.getElem?_cons_zero] at h0; exact h0), (by have h0 := World.var?_cell (show Tryd.prog.globalNamed "gristmill/api.ErrOpen" = some 2 by kernel_rfl) hv_ErrOpen 0; simp only [List.getElem?_toArray, List.getElem?_cons_zero] at h0; exact h0), (by have h0 := World.var?_cell (show Tryd.prog.globalNamed "gristmill/api.ErrClose" = some 1 by kernel_rfl) hv_ErrClose 0; simp only [List.getElem?_toArray, List.getElem?_cons_zero] at h0; exact h0)⟩⟩
end Go.Proofs.YthbiofcgaegjkaaDoor.ExtE
