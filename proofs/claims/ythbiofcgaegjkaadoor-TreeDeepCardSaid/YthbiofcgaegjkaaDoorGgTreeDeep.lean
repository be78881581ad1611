/- What the row of TreeDeep lists of package-level variables gives the walk: where the errors lie, each apart from the others. -/
import Derived.Test.YthbiofcgaegjkaaDoorExtD
namespace Go.Proofs.YthbiofcgaegjkaaDoor.ExtD
open Go.RowKit Go.Proofs.YthbiofcgaegjkaaDoorW.PrintWords
set_option linter.unusedVariables false
theorem laid_sentinel_b {P : Program} {n nm : String} {text : List UInt8} {r : List (String × DataW Unit)} {W : World} {g : Nat} {ti tp te ts : TypeId} {ms : Array (String × TypeId)} {f : Field}
    (h : laidMet P ((n, .iface nm (.ptr (.agg [.lit (.string text)]))) :: r) W)
    (hg : P.globalNamed n = some g) (ht : (P.globals[g]?).map (·.type) = some ti) (hi : P.underlying ti = some (.interface ms)) (hrow : ∀ u, P.typeName? 3 u = some nm → u = tp)
    (hp : P.underlying tp = some (.pointer te)) (he : P.underlying te = some (.struct #[f])) (hft : f.type = ts) (hfo : f.offset = 0) (hs : P.underlying ts = some .string) (hc : P.cellsOf te = 1) (hcs : P.cellsOf ts = 1) :
    ∃ a : Addr, W.var? P n = some #[.iface tp (.pointer (some a))] ∧ (∃ ca ta, W.heap[a.block]? = some (.cells ca ta (0, 0))) ∧ ∃ s : ByteArray, W.cell? a = some (.string s) ∧ s.data.toList = text := by
  obtain ⟨ps, ⟨g0, t0, cs0, f0, p0, q0, hg0, ht0, hv0, hd0, _, e0⟩, _, hrows⟩ := h
  obtain rfl := Option.some.inj (hg.symm.trans hg0)
  obtain rfl := Option.some.inj (ht.symm.trans ht0)
  subst e0
  obtain ⟨l0⟩ := cs0
  have ok0 : ∀ u v, l0 = [.iface u v] → Value.okWide P W .any 0 u v := fun u v e => by
    subst e
    exact (hrows g 0 (by simp [MemPlace.row])).2 u v (by simpa using World.var?_cell hg0 hv0 0)
  obtain ⟨a0, s0, rfl, hc0, hs0, hz0, rfl⟩ := errorString_of_trod hi hrow hp he hft hfo hs hc hcs hd0 ok0
  obtain ⟨c0, t0, hb0⟩ := (hrows a0.block a0.off (by simp [MemPlace.row])).1
  exact ⟨a0, hv0, ⟨c0, t0, hb0⟩, s0, hc0, hs0⟩
theorem cellsN : Tryd.prog.cellsOf 90 = 1 := by kernel_rfl
theorem cellsS : Tryd.prog.cellsOf 9 = 1 := by kernel_rfl
theorem starE : "*" ++ "errors.errorString" = "*errors.errorString" := by decide
theorem rowE (u : TypeId) (h : Tryd.prog.typeName? 3 u = some "*errors.errorString") : u = 74 :=
  typeName_ptr_named (nm := "errors.errorString") (by rw [starE]; kernel_rfl) (by kernel_rfl) (by decide) u (by rw [starE]; exact h)
/-- The errors' texts. -/
def texts : List (List UInt8) := [[105, 116, 32, 101, 110, 100, 115, 32, 116, 111, 111, 32, 101, 97, 114, 108, 121], [110, 111, 116, 32, 97, 115, 32, 105, 116, 32, 104, 97, 115, 32, 116, 111, 32, 98, 101], [97, 32, 110, 117, 109, 98, 101, 114, 32, 111, 117, 116, 32, 111, 102, 32, 105, 116, 115, 32, 114, 97, 110, 103, 101], [116, 111, 111, 32, 109, 97, 110, 121], [116, 111, 111, 32, 100, 101, 101, 112], [97, 32, 98, 114, 97, 99, 107, 101, 116, 32, 116, 104, 97, 116, 32, 105, 115, 32, 110, 111, 116, 32, 99, 108, 111, 115, 101, 100], [97, 32, 98, 114, 97, 99, 107, 101, 116, 32, 116, 104, 97, 116, 32, 119, 97, 115, 32, 110, 111, 116, 32, 111, 112, 101, 110, 101, 100], [110, 111, 32, 115, 117, 99, 104, 32, 102, 111, 114, 109], [110, 111, 116, 32, 97, 32, 110, 97, 109, 101], [116, 104, 101, 114, 101, 32, 105, 115, 32, 111, 110, 101], [116, 104, 101, 114, 101, 32, 105, 115, 32, 110, 111, 110, 101], [110, 111, 116, 32, 97, 115, 32, 109, 97, 110, 121, 32, 97, 115, 32, 105, 116, 32, 116, 97, 107, 101, 115], [110, 111, 32, 109, 97, 105, 110, 32, 119, 105, 116, 104, 111, 117, 116, 32, 112, 97, 114, 97, 109, 101, 116, 101, 114, 115], [105, 116, 32, 104, 97, 115, 32, 110, 111, 32, 116, 121, 112, 101], [110, 111, 116, 32, 98, 111, 117, 110, 100, 44, 32, 111, 114, 32, 98, 111, 117, 110, 100, 32, 116, 119, 105, 99, 101], [110, 111, 116, 32, 111, 102, 32, 116, 104, 97, 116, 32, 116, 97, 103], [110, 111, 32, 115, 117, 99, 104, 32, 119, 111, 114, 100], [110, 111, 116, 32, 97, 32, 110, 117, 109, 98, 101, 114]]
theorem texts_apart : ∀ i j : Fin 18, texts.getD i.1 [] = texts.getD j.1 [] → i = j := by decide
theorem gg_of_treeDeep {W : World} (h : laidMet Tryd.prog Rows.treeDeepRow.laid W) : ∃ ad, GD ad W := by
  obtain ⟨a_ErrEnd, hv_ErrEnd, hb_ErrEnd, hs_ErrEnd⟩ := laid_sentinel_b (g := 4) h (by kernel_rfl) (by kernel_rfl) Tryd.underlying25 rowE Tryd.underlying74 Tryd.underlying90 rfl rfl Tryd.underlying9 cellsN cellsS
  have h1 := laidMet.tail h
  obtain ⟨a_ErrShape, hv_ErrShape, hb_ErrShape, hs_ErrShape⟩ := laid_sentinel_b (g := 5) h1 (by kernel_rfl) (by kernel_rfl) Tryd.underlying25 rowE Tryd.underlying74 Tryd.underlying90 rfl rfl Tryd.underlying9 cellsN cellsS
  have h2 := laidMet.tail h1
  obtain ⟨a_ErrRange, hv_ErrRange, hb_ErrRange, hs_ErrRange⟩ := laid_sentinel_b (g := 6) h2 (by kernel_rfl) (by kernel_rfl) Tryd.underlying25 rowE Tryd.underlying74 Tryd.underlying90 rfl rfl Tryd.underlying9 cellsN cellsS
  have h3 := laidMet.tail h2
  obtain ⟨a_ErrMany, hv_ErrMany, hb_ErrMany, hs_ErrMany⟩ := laid_sentinel_b (g := 3) h3 (by kernel_rfl) (by kernel_rfl) Tryd.underlying25 rowE Tryd.underlying74 Tryd.underlying90 rfl rfl Tryd.underlying9 cellsN cellsS
  have h4 := laidMet.tail h3
  obtain ⟨a_ErrDeep, hv_ErrDeep, hb_ErrDeep, hs_ErrDeep⟩ := laid_sentinel_b (g := 0) h4 (by kernel_rfl) (by kernel_rfl) Tryd.underlying25 rowE Tryd.underlying74 Tryd.underlying90 rfl rfl Tryd.underlying9 cellsN cellsS
  have h5 := laidMet.tail h4
  obtain ⟨a_ErrOpen, hv_ErrOpen, hb_ErrOpen, hs_ErrOpen⟩ := laid_sentinel_b (g := 2) h5 (by kernel_rfl) (by kernel_rfl) Tryd.underlying25 rowE Tryd.underlying74 Tryd.underlying90 rfl rfl Tryd.underlying9 cellsN cellsS
  have h6 := laidMet.tail h5
  obtain ⟨a_ErrClose, hv_ErrClose, hb_ErrClose, hs_ErrClose⟩ := laid_sentinel_b (g := 1) h6 (by kernel_rfl) (by kernel_rfl) Tryd.underlying25 rowE Tryd.underlying74 Tryd.underlying90 rfl rfl Tryd.underlying9 cellsN cellsS
  have h7 := laidMet.tail h6
  obtain ⟨a_ErrForm, hv_ErrForm, hb_ErrForm, hs_ErrForm⟩ := laid_sentinel_b (g := 7) h7 (by kernel_rfl) (by kernel_rfl) Tryd.underlying25 rowE Tryd.underlying74 Tryd.underlying90 rfl rfl Tryd.underlying9 cellsN cellsS
  have h8 := laidMet.tail h7
  obtain ⟨a_ErrName, hv_ErrName, hb_ErrName, hs_ErrName⟩ := laid_sentinel_b (g := 8) h8 (by kernel_rfl) (by kernel_rfl) Tryd.underlying25 rowE Tryd.underlying74 Tryd.underlying90 rfl rfl Tryd.underlying9 cellsN cellsS
  have h9 := laidMet.tail h8
  obtain ⟨a_ErrTwice, hv_ErrTwice, hb_ErrTwice, hs_ErrTwice⟩ := laid_sentinel_b (g := 9) h9 (by kernel_rfl) (by kernel_rfl) Tryd.underlying25 rowE Tryd.underlying74 Tryd.underlying90 rfl rfl Tryd.underlying9 cellsN cellsS
  have h10 := laidMet.tail h9
  obtain ⟨a_ErrNone, hv_ErrNone, hb_ErrNone, hs_ErrNone⟩ := laid_sentinel_b (g := 10) h10 (by kernel_rfl) (by kernel_rfl) Tryd.underlying25 rowE Tryd.underlying74 Tryd.underlying90 rfl rfl Tryd.underlying9 cellsN cellsS
  have h11 := laidMet.tail h10
  obtain ⟨a_ErrArity, hv_ErrArity, hb_ErrArity, hs_ErrArity⟩ := laid_sentinel_b (g := 11) h11 (by kernel_rfl) (by kernel_rfl) Tryd.underlying25 rowE Tryd.underlying74 Tryd.underlying90 rfl rfl Tryd.underlying9 cellsN cellsS
  have h12 := laidMet.tail h11
  obtain ⟨a_ErrMain, hv_ErrMain, hb_ErrMain, hs_ErrMain⟩ := laid_sentinel_b (g := 12) h12 (by kernel_rfl) (by kernel_rfl) Tryd.underlying25 rowE Tryd.underlying74 Tryd.underlying90 rfl rfl Tryd.underlying9 cellsN cellsS
  have h13 := laidMet.tail h12
  obtain ⟨a_ErrType, hv_ErrType, hb_ErrType, hs_ErrType⟩ := laid_sentinel_b (g := 13) h13 (by kernel_rfl) (by kernel_rfl) Tryd.underlying25 rowE Tryd.underlying74 Tryd.underlying90 rfl rfl Tryd.underlying9 cellsN cellsS
  have h14 := laidMet.tail h13
  obtain ⟨a_ErrBound, hv_ErrBound, hb_ErrBound, hs_ErrBound⟩ := laid_sentinel_b (g := 14) h14 (by kernel_rfl) (by kernel_rfl) Tryd.underlying25 rowE Tryd.underlying74 Tryd.underlying90 rfl rfl Tryd.underlying9 cellsN cellsS
  have h15 := laidMet.tail h14
  obtain ⟨a_ErrTag, hv_ErrTag, hb_ErrTag, hs_ErrTag⟩ := laid_sentinel_b (g := 15) h15 (by kernel_rfl) (by kernel_rfl) Tryd.underlying25 rowE Tryd.underlying74 Tryd.underlying90 rfl rfl Tryd.underlying9 cellsN cellsS
  have h16 := laidMet.tail h15
  obtain ⟨a_ErrWord, hv_ErrWord, hb_ErrWord, hs_ErrWord⟩ := laid_sentinel_b (g := 16) h16 (by kernel_rfl) (by kernel_rfl) Tryd.underlying25 rowE Tryd.underlying74 Tryd.underlying90 rfl rfl Tryd.underlying9 cellsN cellsS
  have h17 := laidMet.tail h16
  obtain ⟨a_ErrNumber, hv_ErrNumber, hb_ErrNumber, hs_ErrNumber⟩ := laid_sentinel_b (g := 17) h17 (by kernel_rfl) (by kernel_rfl) Tryd.underlying25 rowE Tryd.underlying74 Tryd.underlying90 rfl rfl Tryd.underlying9 cellsN cellsS
  let A : List Addr := [a_ErrEnd, a_ErrShape, a_ErrRange, a_ErrMany, a_ErrDeep, a_ErrOpen, a_ErrClose, a_ErrForm, a_ErrName, a_ErrTwice, a_ErrNone, a_ErrArity, a_ErrMain, a_ErrType, a_ErrBound, a_ErrTag, a_ErrWord, a_ErrNumber]
  have hall : ∀ i : Nat, i < 18 → W.cell? ⟨See.gl (101 + (i : Int)), 0, none⟩ = some (.iface 74 (.pointer (some (A.getD i ⟨0, 0, none⟩)))) ∧ (∃ ca ta, W.heap[(A.getD i ⟨0, 0, none⟩).block]? = some (.cells ca ta (0, 0))) ∧ ∃ s : ByteArray, W.cell? (A.getD i ⟨0, 0, none⟩) = some (.string s) ∧ s.data.toList = texts.getD i [] := by
    intro i hi
    have hcases : i = 0 ∨ i = 1 ∨ i = 2 ∨ i = 3 ∨ i = 4 ∨ i = 5 ∨ i = 6 ∨ i = 7 ∨ i = 8 ∨ i = 9 ∨ i = 10 ∨ i = 11 ∨ i = 12 ∨ i = 13 ∨ i = 14 ∨ i = 15 ∨ i = 16 ∨ i = 17 := by omega
    rcases hcases with rfl | rfl | rfl | rfl | rfl | rfl | rfl | rfl | rfl | rfl | rfl | rfl | rfl | rfl | rfl | rfl | rfl | rfl
    · exact ⟨by have h0 := World.var?_cell (show Tryd.prog.globalNamed "gristmill/api.ErrEnd" = some 4 by kernel_rfl) hv_ErrEnd 0; simp only [List.getElem?_toArray, List.getElem?_cons_zero] at h0; exact h0, hb_ErrEnd, hs_ErrEnd⟩
    · exact ⟨by have h0 := World.var?_cell (show Tryd.prog.globalNamed "gristmill/api.ErrShape" = some 5 by kernel_rfl) hv_ErrShape 0; simp only [List.getElem?_toArray, List.getElem?_cons_zero] at h0; exact h0, hb_ErrShape, hs_ErrShape⟩
    · exact ⟨by have h0 := World.var?_cell (show Tryd.prog.globalNamed "gristmill/api.ErrRange" = some 6 by kernel_rfl) hv_ErrRange 0; simp only [List.getElem?_toArray, List.getElem?_cons_zero] at h0; exact h0, hb_ErrRange, hs_ErrRange⟩
    · exact ⟨by have h0 := World.var?_cell (show Tryd.prog.globalNamed "gristmill/api.ErrMany" = some 3 by kernel_rfl) hv_ErrMany 0; simp only [List.getElem?_toArray, List.getElem?_cons_zero] at h0; exact h0, hb_ErrMany, hs_ErrMany⟩
    · exact ⟨by have h0 := World.var?_cell (show Tryd.prog.globalNamed "gristmill/api.ErrDeep" = some 0 by kernel_rfl) hv_ErrDeep 0; simp only [List.getElem?_toArray, List.getElem?_cons_zero] at h0; exact h0, hb_ErrDeep, hs_ErrDeep⟩
    · exact ⟨by have h0 := World.var?_cell (show Tryd.prog.globalNamed "gristmill/api.ErrOpen" = some 2 by kernel_rfl) hv_ErrOpen 0; simp only [List.getElem?_toArray, List.getElem?_cons_zero] at h0; exact h0, hb_ErrOpen, hs_ErrOpen⟩
    · exact ⟨by have h0 := World.var?_cell (show Tryd.prog.globalNamed "gristmill/api.ErrClose" = some 1 by kernel_rfl) hv_ErrClose 0; simp only [List.getElem?_toArray, List.getElem?_cons_zero] at h0; exact h0, hb_ErrClose, hs_ErrClose⟩
    · exact ⟨by have h0 := World.var?_cell (show Tryd.prog.globalNamed "gristmill/api.ErrForm" = some 7 by kernel_rfl) hv_ErrForm 0; simp only [List.getElem?_toArray, List.getElem?_cons_zero] at h0; exact h0, hb_ErrForm, hs_ErrForm⟩
    · exact ⟨by have h0 := World.var?_cell (show Tryd.prog.globalNamed "gristmill/api.ErrName" = some 8 by kernel_rfl) hv_ErrName 0; simp only [List.getElem?_toArray, List.getElem?_cons_zero] at h0; exact h0, hb_ErrName, hs_ErrName⟩
    · exact ⟨by have h0 := World.var?_cell (show Tryd.prog.globalNamed "gristmill/api.ErrTwice" = some 9 by kernel_rfl) hv_ErrTwice 0; simp only [List.getElem?_toArray, List.getElem?_cons_zero] at h0; exact h0, hb_ErrTwice, hs_ErrTwice⟩
    · exact ⟨by have h0 := World.var?_cell (show Tryd.prog.globalNamed "gristmill/api.ErrNone" = some 10 by kernel_rfl) hv_ErrNone 0; simp only [List.getElem?_toArray, List.getElem?_cons_zero] at h0; exact h0, hb_ErrNone, hs_ErrNone⟩
    · exact ⟨by have h0 := World.var?_cell (show Tryd.prog.globalNamed "gristmill/api.ErrArity" = some 11 by kernel_rfl) hv_ErrArity 0; simp only [List.getElem?_toArray, List.getElem?_cons_zero] at h0; exact h0, hb_ErrArity, hs_ErrArity⟩
    · exact ⟨by have h0 := World.var?_cell (show Tryd.prog.globalNamed "gristmill/api.ErrMain" = some 12 by kernel_rfl) hv_ErrMain 0; simp only [List.getElem?_toArray, List.getElem?_cons_zero] at h0; exact h0, hb_ErrMain, hs_ErrMain⟩
    · exact ⟨by have h0 := World.var?_cell (show Tryd.prog.globalNamed "gristmill/api.ErrType" = some 13 by kernel_rfl) hv_ErrType 0; simp only [List.getElem?_toArray, List.getElem?_cons_zero] at h0; exact h0, hb_ErrType, hs_ErrType⟩
    · exact ⟨by have h0 := World.var?_cell (show Tryd.prog.globalNamed "gristmill/api.ErrBound" = some 14 by kernel_rfl) hv_ErrBound 0; simp only [List.getElem?_toArray, List.getElem?_cons_zero] at h0; exact h0, hb_ErrBound, hs_ErrBound⟩
    · exact ⟨by have h0 := World.var?_cell (show Tryd.prog.globalNamed "gristmill/api.ErrTag" = some 15 by kernel_rfl) hv_ErrTag 0; simp only [List.getElem?_toArray, List.getElem?_cons_zero] at h0; exact h0, hb_ErrTag, hs_ErrTag⟩
    · exact ⟨by have h0 := World.var?_cell (show Tryd.prog.globalNamed "gristmill/api.ErrWord" = some 16 by kernel_rfl) hv_ErrWord 0; simp only [List.getElem?_toArray, List.getElem?_cons_zero] at h0; exact h0, hb_ErrWord, hs_ErrWord⟩
    · exact ⟨by have h0 := World.var?_cell (show Tryd.prog.globalNamed "gristmill/api.ErrNumber" = some 17 by kernel_rfl) hv_ErrNumber 0; simp only [List.getElem?_toArray, List.getElem?_cons_zero] at h0; exact h0, hb_ErrNumber, hs_ErrNumber⟩
  have hGS : See.GS (fun c => A.getD (c - 101).toNat ⟨0, 0, none⟩) W := by
    have at_ : ∀ c : Int, 101 ≤ c → c ≤ 118 → ∃ i : Nat, i < 18 ∧ c = 101 + (i : Int) ∧ (c - 101).toNat = i := fun c c0 c1 => ⟨(c - 101).toNat, by omega, by omega, rfl⟩
    refine ⟨fun c c0 c1 => ?_, fun c c0 c1 => ?_, fun c d c0 c1 d0 d1 e => ?_⟩
    · obtain ⟨i, hi, rfl, hq⟩ := at_ c c0 c1
      simp only [hq]
      exact (hall i hi).1
    · obtain ⟨i, hi, rfl, hq⟩ := at_ c c0 c1
      simp only [hq]
      exact (hall i hi).2.1
    · obtain ⟨i, hi, rfl, hq⟩ := at_ c c0 c1
      obtain ⟨j, hj, rfl, hr⟩ := at_ d d0 d1
      simp only [hq, hr] at e
      obtain ⟨s, hs, hs2⟩ := (hall i hi).2.2
      obtain ⟨t, ht, ht2⟩ := (hall j hj).2.2
      rw [e, ht] at hs
      obtain rfl := Value.string.inj (Option.some.inj hs)
      have := texts_apart ⟨i, hi⟩ ⟨j, hj⟩ (hs2.symm.trans ht2)
      have := congrArg Fin.val this
      simp only at this
      omega
  exact ⟨fun c => A.getD (c - 101).toNat ⟨0, 0, none⟩, ⟨hGS⟩⟩
end Go.Proofs.YthbiofcgaegjkaaDoor.ExtD
