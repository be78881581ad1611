/- How errors lie (nil; one of api's; one with a place, by the number 1000 * place + 500 + the inner error's), the condition on the package-level variables. -/
import Derived.Test.YthbiofcgaegjkaaDoorSee
namespace Go.Proofs.YthbiofcgaegjkaaDoor.ExtE
open Go.RowKit Go.Proofs.YthbiofcgaegjkaaDoorW.PrintWords
set_option linter.unusedVariables false
/-- The dynamic type of an error, by its number. -/
def ety (c : Int) : TypeId := if c % 1000 < 500 then 74 else 47
/-- An error as it lies in memory: nil, or a pointer to where 'ad' tells. -/
def errW (ad : Int → Addr) : Option Int → Value
  | none => .nilIface
  | some c => .iface (ety c) (.pointer (some (ad c)))
theorem errW_none (ad : Int → Addr) : errW ad none = .nilIface := rfl
theorem errW_some (ad : Int → Addr) (c : Int) : errW ad (some c) = .iface (ety c) (.pointer (some (ad c))) := rfl
theorem ety_at (p k : Int) (hk : 500 ≤ k ∧ k < 1000) : ety (1000 * p + k) = 47 := by
  unfold ety
  rw [if_neg (by omega)]
theorem errW_at605 (ad : Int → Addr) (p : Int) : errW ad (some (1000 * p + 605)) = .iface 47 (.pointer (some (ad (1000 * p + 605)))) := by rw [errW_some, ety_at _ _ (by decide)]
theorem errW_at606 (ad : Int → Addr) (p : Int) : errW ad (some (1000 * p + 606)) = .iface 47 (.pointer (some (ad (1000 * p + 606)))) := by rw [errW_some, ety_at _ _ (by decide)]
theorem errW_at607 (ad : Int → Addr) (p : Int) : errW ad (some (1000 * p + 607)) = .iface 47 (.pointer (some (ad (1000 * p + 607)))) := by rw [errW_some, ety_at _ _ (by decide)]
/-- Where an error that a call hands out lies: where its like lay ahead of it, or it is a new one with a place. -/
inductive AtOk (ad adf : Int → Addr) (w : World) (r : Option Int) : Prop
  | old (h : adf = ad) (hr : ∀ c, r = some c → c % 1000 < 500) : AtOk ad adf w r
  | made (p k : Int) (h : r = some (1000 * p + (500 + k))) (hk : 101 ≤ k ∧ k ≤ 118) (h0 : w.cell? ⟨(adf (1000 * p + (500 + k))).block, 0, none⟩ = some (.int .i64 p)) (h1 : w.cell? ⟨(adf (1000 * p + (500 + k))).block, 1, none⟩ = some (.iface 74 (.pointer (some (ad k))))) (ho : adf (1000 * p + (500 + k)) = ⟨(adf (1000 * p + (500 + k))).block, 0, none⟩) : AtOk ad adf w r
theorem AtOk.new {ad : Int → Addr} {w : World} {r : Option Int} (b : Addr) (p k : Int) (h : r = some (1000 * p + (500 + k))) (hk : 101 ≤ k ∧ k ≤ 118) (h0 : w.cell? ⟨b.block, 0, none⟩ = some (.int .i64 p)) (h1 : w.cell? ⟨b.block, 1, none⟩ = some (.iface 74 (.pointer (some (ad k))))) (ho : b = ⟨b.block, 0, none⟩) : AtOk ad (fun _ => b) w r := .made p k h hk h0 h1 ho
structure GG (ad : Int → Addr) (w : World) : Prop where
  many : w.cell? ⟨3, 0, none⟩ = some (.iface 74 (.pointer (some (ad 104))))
  deep : w.cell? ⟨0, 0, none⟩ = some (.iface 74 (.pointer (some (ad 105))))
  opn : w.cell? ⟨2, 0, none⟩ = some (.iface 74 (.pointer (some (ad 106))))
  clos : w.cell? ⟨1, 0, none⟩ = some (.iface 74 (.pointer (some (ad 107))))
theorem GG.below {ad : Int → Addr} {w W : World} (h : GG ad w) (hb : Below w.heap.size w W) : GG ad W :=
  ⟨(hb.cell (World.block_lt_of_cell? _ _ h.many)).trans h.many, (hb.cell (World.block_lt_of_cell? _ _ h.deep)).trans h.deep, (hb.cell (World.block_lt_of_cell? _ _ h.opn)).trans h.opn, (hb.cell (World.block_lt_of_cell? _ _ h.clos)).trans h.clos⟩
theorem GG.drewN {ad : Int → Addr} {w : World} (h : GG ad w) (n : Nat) : GG ad (w.drewN n) := h.below ⟨rfl, rfl, rfl, Nat.le_refl _, fun _ _ => rfl⟩
theorem GG.of_s {ad : Int → Addr} {w : World} (h : See.GS ad w) : GG ad w := ⟨h.cell 104 (by decide) (by decide), h.cell 105 (by decide) (by decide), h.cell 106 (by decide) (by decide), h.cell 107 (by decide) (by decide)⟩
end Go.Proofs.YthbiofcgaegjkaaDoor.ExtE
